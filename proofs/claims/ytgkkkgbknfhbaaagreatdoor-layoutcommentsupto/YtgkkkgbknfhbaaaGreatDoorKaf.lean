/- A part of the proof: A30 A31 A32 A33 T T0 T3a T1. -/
import Derived.Test.YtgkkkgbknfhbaaaGreatDoorKae
import Derived.Test.YtgkkkgbknfhbaaaGreatDoorProg

set_option linter.all false
namespace Go.Abs
open Go.RowKit
def MH(cs:List PV):List PV ⊕ (KD×PV×(Kx->PV)):=match mapOf (some cs) with
 |some (d,z,ks,vs)=>.inr (d,z,λx=>(Lc x ks vs).getD z)
 |none=>.inl (cs.map PV.Ck)
def Ws(a b:Sto):Prop:=a.map MH=b.map MH
def WX(d:KD)(z:PV)(ks:List Kx)(vs:List PV):MH [.mapo d z ks vs]=.inr (d,z,λx=>(Lc x ks vs).getD z):=rfl
def JQ(cs:List PV):(mapOf (some cs)=none)\/∃d z ks vs,cs=[.mapo d z ks vs]:=by
 unfold mapOf
 grind
def Hu{cs:List PV}(h:mapOf (some cs)=none):MH cs=.inl (cs.map PV.Ck):=by
 unfold MH;rw[h]
def fq{c cs:List PV}(h:MH c=MH cs):c.map PV.Ck=cs.map PV.Ck\/∃d z ks vs b a,c=[.mapo d z ks vs]/\cs=[.mapo d z b a]/\∀x,(Lc x ks vs).getD z=(Lc x b a).getD z:=by
 rcases JQ c with f | ⟨d,z,ks,vs,rfl⟩
 ·rcases JQ cs with e | ⟨i,j,b,a,rfl⟩
  ·rw[Hu f,Hu e] at h
   grind
  ·rw[Hu f] at h;cases h
 ·rcases JQ cs with e | ⟨i,j,b,a,rfl⟩
  ·rw[Hu e] at h;cases h
  ·have h:=Sum.inr.inj h
   simp  [Prod.mk.injEq] at h
   let ⟨rfl,rfl,g⟩:=h
   exact .inr ⟨_,_,_,_,_,_,rfl,rfl,λx=>congrFun g x⟩
section
variable{P:Program}{pur:FuncId->Bool}{call:Caller}{fi:FI}{cx:Cx}{G:Gh}{a:Act}{w:World}{A A' B:Frm}{σ σ' τ:Sto}{rg:RG}{o:Oper}{ao:AOp}{ops:Array Oper}
def Gf:∀(ts:List Nat) (vs:List (Option PV)) (A:Frm) (t:Nat),t∉ts->(Dw A ts vs).get t=A.get t
 |[],vs,A,t,_=>by cases vs<;>rfl
 |s::ts,[],A,t,_=>rfl
 |s::ts,v::vs,A,t,h=>by
  rw[Dw,Gf _ _ _ t (λc=>h (AP _ c)),Dp,if_neg (λc=>h (by grind))]
def Ls:∀(ts:List Nat) (vs:List (Option PV)) (A B:Frm) (t:Nat),A.length=B.length->ts.length<=vs.length->t∈ts->(Dw A ts vs).get t=(Dw B ts vs).get t
 |[],vs,A,B,t,_,_,h=>by grind
 |s::ts,[],A,B,t,_,h,_=>by grind
 |s::ts,v::vs,A,B,t,g,f,h=>by
  rw[Dw,Dw];by_cases c:t∈ts
  ·exact Ls ts vs _ _ t (by grind) (by grind) c
  ·rw[Gf ts vs _ t c,Gf _ _ _ t c,Dp,Dp];have d:t=s:=by grind
   by_cases e:t<A.length
   ·grind
   ·unfold Frm.get
    grind
def KR:∀(c:List CW),(∀t∈PX c,B.get t=A.get t)->Cc B c=Cc A c
 |[],_=>rfl
 |.slot t::c,h=>by
  simp only[Cc];rw[h t (AV ..),KR c (λe d=>h _ (AP _ d))]
 |.val v::c,h=>by
  simp  [Cc]
  rw[KR c (λe d=>h e d)]
def U8(g:Option (Nat×Bool))(h:∀t b,g=some (t,b)->B.get t=A.get t):Iy B g=Iy A g:=by
 cases g with
 |none=>rfl
 |some x=>
  let ⟨t,b⟩:=x
  simp  [Iy]
  rw[h t b rfl]
def Rh(x:PV):x.Ck.isSelf=x.isSelf:=by cases x<;>rfl
def TV(x:PV):x.Ck.isAgg=x.isAgg:=by cases x<;>rfl
def Nr{x:PV}(h:x.isAgg=false):x.Ag=x.Ck:=by cases x<;>first | rfl | (simp[PV.isAgg] at h)
def o6(x:PV):x.Ck.flat=x.flat:=by cases x<;>rfl
def iw(l:List PV):(l.map PV.Ck).all PV.flat=l.all PV.flat:=by
 rw[List.all_map];congr 1;funext x;exact o6 x
def UO(cs:List PV)(g s:Nat):Jl cs g s=Jl (cs.map PV.Ck) g s:=by
 match cs with
 |[]=>rfl
 |[x]=>cases x<;>rfl
 |x::y::l=>cases x<;>rfl
def pV{cs b:List PV}(h:b.map PV.Ck=cs.map PV.Ck)(g s:Nat):Jl b g s=Jl cs g s:=by rw[UO,h,<-UO]
def uh{cs d:List PV}(h:d.map PV.Ck=cs.map PV.Ck)(off n:Nat)(ag:Bool):(X3 d off n ag).map PV.Ag=(X3 cs off n ag).map PV.Ag:=by
 have c:((d.drop off).take n).map PV.Ck=((cs.drop off).take n).map PV.Ck:=by simp_all
 cases ag with
 |true=>
  simp only[X3,(by simpa using congrArg List.length h)]
  rw[<-iw _,c,iw];split
  ·simp only[AJ,PV.Ag,Option.some.injEq,PV.agg.injEq];exact c
  ·rfl
 |false=>
  simp only[X3];have b:=congrArg (λl=>l[off]?) h
  simp only[Al] at b;cases i:d[off]? with
  |none=>
   grind
  |some x=>
   rw[i] at b;cases g:cs[off]? with
   |none=>grind
   |some y=>
    rw[g] at b;simp only[AJ,Option.some.injEq] at b;have e:x.isAgg=y.isAgg:=by rw[<-TV x,b,TV]
    dsimp only;rw[e,(by rw[<-Rh x,b,Rh]: x.isSelf=y.isSelf)]
    cases f:y.isAgg with
    |true=>rfl
    |false=>
     cases j:y.isSelf with
     |true=>rfl
     |false=>
      simp only[Bool.or_self,Bool.false_eq_true,if_false,AJ];rw[Nr (by grind),Nr f,b]
def iX{b cs:List PV}(h:MH b=MH cs)(off n:Nat)(ag:Bool):(X3 b off n ag).map PV.Ag=(X3 cs off n ag).map PV.Ag:=by
 rcases fq h with h | ⟨d,z,ks,vs,c,e,rfl,rfl,_⟩
 ·exact uh h _ n _
 ·cases ag with
  |true=>
   simp  [X3,DX]
   by_cases f:off+n<=1
   ·rcases off with _ | off
    ·rcases n with _ | n
     ·rfl
     ·obtain rfl:n=0:=am
      rfl
    rfl
   grind
  |false=>
   rcases off with _ | off
   ·rfl
   ·rfl
def ib{b cs:List PV}(h:MH b=MH cs)(g s:Nat):Jl b g s=Jl cs g s:=by
 rcases fq h with h | ⟨d,z,ks,vs,c,e,rfl,rfl,_⟩
 ·exact pV h g s
 ·rfl
def wQ{σ τ:Sto}(h:Ws τ σ)(id:Nat)(z k:PV)(d:KD):Dq (.lkM z false d) [.mref id,k] τ=Dq (.lkM z false d) [.mref id,k] σ:=by
 have n:=congrArg (λl=>l[id]?) h
 have j:∀(b:Sto),Dq (.lkM z false d) [.mref id,k] b=match(b[id]?).map MH,TP d k with
   |some (.inr (e,c,f)),some x=>if e=d/\Wv z c=true then lkR false (f x) true else none
   |_,_=>none:=by
  intro b
  simp  [Dq]
  cases i:b[id]? with
  |none=>simp[mapOf]
  |some cs=>
   rcases JQ cs with g | ⟨e,c,ks,vs,rfl⟩
   ·rw[g,AJ,Hu g]
   ·rw[AJ,WX]
    show(match some _,TP d k with
     |some (e,c,ks,vs),some x=>if e=d/\Wv z c=true then(match Lc x ks vs with | some v=>lkR _ v _ | none=>lkR _ _ _) else none
     |_,_=>none)=_
    cases m:TP d k with
    |none=>rfl
    |some x=>
     dsimp 
     split
     ·cases p:Lc x _ vs with
      |some v=>rfl
      |none=>rfl
     ·rfl
 grind
def jd{k:RK}{vs:List PV}(g:isW (.r k)=true->τ=σ)(h:Ws τ σ):Dq k vs τ=Dq k vs σ:=by
 cases k with
 |ld n ag=>
  match vs with
  |[]=>rfl
  |x::y::l=>cases x<;>rfl
  |[x]=>
   cases x with
   |ref id off=>
    simp only[Dq];have b:=congrArg (λl=>l[id]?) h
    simp only[Al] at b;cases f:τ[id]? with
    |none=>
     grind
    |some j=>
     rw[f] at b;cases c:σ[id]? with
     |none=>simp_all
     |some cs=>
      rw[c] at b;simp only[AJ,Option.some.injEq] at b;dsimp only;have e:∀s:Option PV,(s.map λv=>[some v.Ag])=(s.map PV.Ag).map λv=>[some v]:=λs=>by cases s<;>rfl
      rw[e,e,(iX b off n ag)]
   |aptr id gen size i off=>
    simp only[Dq];have b:=congrArg (λl=>l[id]?) h
    simp only[Al] at b;cases f:τ[id]? with
    |none=>
     grind
    |some j=>
     rw[f] at b;cases c:σ[id]? with
     |none=>grind
     |some cs=>
      rw[c] at b;simp only[AJ,Option.some.injEq] at b;dsimp only;rw[ib b]
   |_=>rfl
 |lkM z ok d=>
  cases ok with
  |true=>rw[g rfl]
  |false=>
   match vs with
   |[]=>rfl
   |[x]=>cases x<;>rfl
   |x::y::u::l=>cases x<;>rfl
   |[x,y]=>
    cases x with
    |mref id=>exact wQ h id z y d
    |_=>rfl
 |lnM=>rw[g rfl]
def WI{k:AK}{vs:List PV}{c:List (Option PV)}(d:isW k=true->τ=σ)(i:isP k=false->Ws τ σ)(h:sem pur call k vs σ=some (c,σ')):
  ∃b,sem pur call k vs τ=some (c,b)/\(isW k=true->b=σ')/\(isW k=false->b=τ):=by
 cases k with
 |p k=>
  simp only[sem] at h ⊢
  let ⟨_,_,e⟩:=Ac.1 h
  grind
 |r k=>
  simp only[sem] at h ⊢;have⟨_,g,e⟩:=Ac.1 h;cases e;exact⟨_,by rw[jd d (i rfl),g];rfl,am,by simp⟩
 |w k=>
  have:=d rfl;subst this;exact⟨_,h,by simp,λh=>by simp[isW] at h⟩
 |c f=>
  simp only[sem] at h ⊢
  split at h
  ·let ⟨_,_,_⟩:=AB.1 h
   grind
  ·cases h
def jX(r:B.length=A.length)(k:∀t,t∈ao.rd->B.get t=A.get t)(u:isW ao.k=true->τ=σ)(C:isP ao.k=false->Ws τ σ)(h:H6 pur call ao A σ=some (A',σ')):
  ∃i c,H6 pur call ao B τ=some (i,c)/\i.length=B.length/\(∀t,t∈ao.wr->i.get t=A'.get t)/\(∀t,t∉ao.wr->i.get t=B.get t)/\(isW ao.k=true->c=σ')/\(isW ao.k=false->c=τ):=by
 have q:Iy B ao.guard=Iy A ao.guard:=U8 _ λt b z=>k t (by simp[AOp.rd,z])
 have D:Cc B ao.args=Cc A ao.args:=KR _ λt d=>k t (by simp only[AOp.rd];exact List.mem_append_right _ d)
 have l:∀{i:Frm} {c:Sto},H6 pur call ao B τ=some (i,c)->i.length=B.length:=λh=>Us h
 unfold H6 at h
 split at h
 ·rename_i f;unfold Cb at h
  split at h
  ·rename_i vs p
   split at h
   ·rename_i v m E;have n:m=σ':=by grind
    subst n;obtain⟨c,y,x,s⟩:=WI u C E;by_cases e:v.length=ao.dst.toList.length+ao.ex.length
    ·rw[if_pos e] at h;cases h
     have g:H6 pur call ao B τ=some (Dw B ao.wr (v++ao.clr.map λ_=>none),c):=by
      unfold H6;rw[q,f];dsimp only;unfold Cb;rw[D,p];dsimp only;rw[y];dsimp only;rw[if_pos e]
     refine⟨_,c,g,l g,λt d=>Ls _ _ _ _ t r ?_ d,λt d=>Gf _ _ _ t d,x,s⟩
     simp only[AOp.wr,Ae,Ap];omega
    ·rw[if_neg e] at h
     split at h
     ·rename_i j;cases h
      have g:H6 pur call ao B τ=some (B,c):=by
       unfold H6;rw[q,f];dsimp only;unfold Cb;grind
      refine⟨_,c,g,rfl,λt d=>?_,λt d=>rfl,x,s⟩
      have:ao.wr=[]:=by
       simp only[AOp.wr,j.2.1,j.2.2,Az]
       simp_all
      rw[this] at d;cases d
     ·cases h
   ·cases h
  ·cases h
 ·rename_i f
  split at h
  ·rename_i j;cases h
   have g:H6 pur call ao B τ=some (Dw B ao.wr [some Li],τ):=by
    unfold H6;rw[q,f];dsimp only;rw[if_pos j]
   refine⟨_,τ,g,l g,λt d=>Ls _ _ _ _ t r ?_ d,λt d=>Gf _ _ _ t d,u,λ_=>rfl⟩
   simp only[AOp.wr,j.1,j.2,Az];cases ao.dst<;>simp
  ·cases h
 ·cases h
def jY(h:H6 pur call ao A σ=some (A',σ')):∀t,t∉ao.wr->A'.get t=A.get t:=by
 unfold H6 at h
 split at h
 ·unfold Cb at h
  split at h
  ·split at h
   ·split at h
    ·cases h;intro t b;exact Gf _ _ _ t b
    grind
   ·cases h
  ·cases h
 ·split at h
  ·cases h;intro t b;exact Gf _ _ _ t b
  ·cases h
 ·cases h
def Uq{T:Sto->Sto->Prop}(c:∀s,T s s)(h:H6 pur call ao A σ=some (A',σ'))(d:∀vs b,sem pur call ao.k vs σ=some (b,σ')->T σ' σ):T σ' σ:=by
 unfold H6 at h
 split at h
 ·unfold Cb at h
  grind
 ·grind
 ·cases h
def bR{k:AK}{vs:List PV}{b:List (Option PV)}(c:isW k=false)(h:sem pur call k vs σ=some (b,σ')):σ'=σ:=by
 let ⟨_,_,_,_⟩:=WI (by simp) (λ_=>rfl) h
 grind
def mh{cs:List PV}{i:Nat}{p:PV}(h:cs[i]?=some p)(c:p.JR=true):mapOf (some cs)=none:=by
 rcases JQ cs with b | ⟨d,z,ks,vs,rfl⟩
 ·exact b
 ·cases i with
  |zero=>cases h;cases c
  |succ i=>simp at h
def AqE{σ:Sto}{id off:Nat}{cs:List PV}{v:PV}(c:σ[id]?=some cs)(f:cs[off]?=some v)(d:v.isAgg=false)(b:v.JR=true):Ws (σ.set id (Fw cs off [v.Ag])) σ:=by
 unfold Ws;rw[List.map_set];apply Ee;intro k;rw[EG];split
 ·rename_i e;subst e;simp only[Ap,((Ad.1 _).1),if_true,Al,c,AJ,Option.some.injEq]
  let ⟨_,_⟩:=((Ad.1 f))
  have g:(Fw cs off [v.Ag])[off]?=some v.Ag:=by
   rw[Ol (by grind),if_pos (by simp),E5];rfl
  rw[Hu (mh f b),Hu (mh g (by cases v<;>first | rfl | cases b))]
  unfold Fw;simp only[BV,Bu,CK,Ah,Ba];have i:v.Ag.Ck=v.Ck:=by rw[Nr d];cases v<;>rfl
  have h:cs.take off++cs[off]::cs.drop (off+1)=cs:=by simp
  grind
 ·rfl
def Xu(y x:Kx):∀ks:List Kx,Ji y (ks++[x])=match Ji y ks with | some j=>some j | none=>if x=y then some ks.length else none
 |[]=>rfl
 |k::ks=>by
  simp  [Bg,Ji]
  split
  ·rfl
  ·rw[Xu y x ks]
   grind
def BZW{ks:List Kx}{x:Kx}{j:Nat}(h:Ji x ks=some j):j<ks.length:=(Ad.1 (L9 h)).1
def wO{ks:List Kx}{vs:List PV}{x:Kx}{z:PV}(b:vs.length=ks.length)(y:Kx):(Lc y (ks++[x]) (vs++[z])).getD z=(Lc y ks vs).getD z:=by
 unfold Lc;rw[Xu]
 grind
def AqF{id:Nat}{d:KD}{z:PV}{ks:List Kx}{vs:List PV}{x:Kx}(f:mapOf σ[id]?=some (d,z,ks,vs))(c:vs.length=ks.length):Ws (σ.set id [.mapo d z (ks++[x]) (vs++[z])]) σ:=by
 have b:σ[id]?=some [.mapo d z ks vs]:=by
  unfold mapOf at f
  grind
 unfold Ws;rw[List.map_set];apply Ee;intro k;rw[EG];split
 ·rename_i e;subst e;simp only[Ap,((Ad.1 _).1),if_true,Al,b,AJ,Option.some.injEq];rw[WX];congr 3
  funext y
  exact wO c y
 ·rfl
def uM{k:AK}{vs:List PV}{j:List (Option PV)}(i:isH k=false)(h:sem pur call k vs σ=some (j,σ')):Ws σ' σ:=by
 cases k with
 |w k=>
  cases k with
  |ldo=>
   simp only[sem] at h
   match vs,h with
   |[c],h=>
    obtain⟨id,off,cs,v,rfl,g,p,f,e⟩:=mI h;cases e;exact AqE g p (by cases v<;>first | rfl | simp[PV.JR] at f) f
   |[],h=>simp[Fj] at h
   |x::y::l,h=>simp[Fj] at h
  |enM z d=>
   simp only[sem] at h
   match vs,h with
   |[.mref id,k],h=>
    simp only[Fj] at h
    split at h
    ·rename_i s t ks r x n q
     split at h
     case isFalse=>cases h
     split at h
     ·split at h
      ·split at h
       ·cases h;rfl
       ·cases h
      ·cases h
     ·split at h
      case isFalse=>cases h
      rename_i b;cases h;exact AqF n b.2
    ·cases h
  |_=>simp[isH] at i
 |r k=>
  simp only[sem] at h;obtain⟨m,g,e⟩:=Ac.1 h;cases e;rfl
 |_=>
  have:=bR (by rfl) h
  rw[this];rfl
def Xq(d:List Nat)(i:Nat):∀(l:List Edge) (s:Nat),(l.foldl (λs e=>if Region.binds .any e then s ||| 2 ^ e.on ||| d.getD e.on 0 else s) s).testBit i=true->
  s.testBit i=true\/∃e∈l,Region.binds .any e=true/\(e.on=i\/(d.getD e.on 0).testBit i=true)
 |[],s,h=>.inl h
 |e::l,s,h=>by
  rcases Xq _ i l _ h with h | ⟨g,f,h⟩
  ·grind
  grind
def Rt:∀(l:List Oper) (b:List Oper) (f:List Nat),ops.toList=b++l->f.length=b.length->(∀i j,j<b.length->(f.getD j 0).testBit i=true->Ahead ops i j)->
  ∀i j,j<ops.size->((aV f l).getD j 0).testBit i=true->Ahead ops i j
 |[],b,f,r,v,h=>by
  intro i j z c;refine h i j ?_ c
  have:=congrArg List.length r;simp at this;omega
 |o::l,b,f,r,v,h=>by
  simp only[aV];refine Rt l (b++[o]) _ (by rw[r];simp) (by simp[v]) λi j z c=>?_
  by_cases n:j<b.length
  ·refine h i j n ?_
   rw[BA,AR am,<-BA] at c
   exact c
  ·have s:j=b.length:=by simp at z;omega
   subst s;rw[BA,Aq am,v] at c
   simp only[E5,EN,ES,XJ] at c
   have D:ops[b.length]?=some o:=by
    rw[<-Bc,r];simp
   intro L p F;have q:=F o D;rw[<-Fa] at c;rcases Xq f i _ _ c with c | ⟨e,m,g,c⟩
   ·simp at c
   ·have d:e∈o.after:=by simpa using m
    rcases c with rfl | c
    ·exact q e d g
    ·have n:e.on<b.length:=by
      rcases Be e.on b.length with y | y
      ·exact y
      ·rw[BA,Ey am] at c
       simp at c
     exact h i e.on n c L p (λC x E u t=>p e.on C x (q e d g) E u t)
def Tu{bits:List Nat}{d:List AOp}:∀(n:Nat),R3 bits d n=true->∀i j,i<j->j<n->(bits.getD j 0).testBit i=true\/aU (d.getD i default) (d.getD j default)=true
 |0,_=>λi j _ h=>am
 |n+1,h=>by
  simp  [R3,Aj] at h
  intro i j c f;rcases Be j n with e | e
  ·exact Tu n h.1 i j c e
  grind
def PZ:∀(n:Nat),Sg ops.toList n=true->∀i o,i<n->ops[i]?=some o->∀e∈o.after,Region.binds .any e=true->e.on<i
 |0,_=>λi o h=>am
 |n+1,h=>by
  simp only[Sg,Aj] at h;intro i o hi g e f k;rcases Be i n with j | j
  ·exact PZ n h.1 i o j g e f k
  ·have:i=n:=am
   subst this;have d:=h.2;rw[Bc,g] at d;have:=Array.all_eq_true_iff_forall_mem.1 d e f
   grind
def KT{x y:List Nat}(h:NQ x y=true):∀t,t∈x->t∉y:=by
 intro t b c;have:=Au.1 h t b
 grind
def RL{b:List AOp}{i j:Nat}(h:aU (b.getD i default) (b.getD j default)=true):
  NW (λi=>(b.getD i default).rd) (λi=>(b.getD i default).wr) (λi=>isW (b.getD i default).k) (λi=>isH (b.getD i default).k) (λi=>isP (b.getD i default).k) i j:=by
 simp  [aU,Aj] at h
 let ⟨⟨⟨⟨c,e⟩,d⟩,_⟩,_⟩:=h
 refine⟨KT c,KT e,KT d,λf=>?_,λf=>?_⟩
 ·grind
 grind
def Rl:∀(c:List AOp) (A A':Frm) (σ σ':Sto),Jj pur call c A σ=some (A',σ')->
  ∃(F:Nat->Frm) (S:Nat->Sto),F 0=A/\S 0=σ/\F c.length=A'/\S c.length=σ'/\∀i,i<c.length->H6 pur call (c.getD i default) (F i) (S i)=some (F (i+1),S (i+1))
 |[],A,A',σ,σ',h=>by
  cases h;exact⟨λ_=>A,λ_=>σ,rfl,rfl,rfl,rfl,by simp⟩
 |ao::c,A,A',σ,σ',h=>by
  simp  [Jj] at h
  split at h
  ·rename_i A1 f g
   let ⟨F,S,_,_,d,e,_⟩:=Rl _ _ _ _ _ h
   refine⟨λi=>match i with | 0=>A | i+1=>F i,λi=>match i with | 0=>σ | i+1=>S i,rfl,rfl,d,e,λi hi=>?_⟩
   grind
  ·cases h
def AzC{k:AK}(h:isW k=true):isP k=false:=by cases k<;>first | rfl | simp[isW] at h
def AzE{k:AK}(h:isH k=true):isW k=true:=by cases k<;>first | rfl | simp[isH] at h
def Yf{ro:Option Nat}{n:Nat}{Q:Exit->Act->World->Prop}(hS:Iu P call)(X:Ih cx fi)(J:P.follows .mixedOrders=true){id:Nat}{d:Bool}{g:List AOp}(p:OU P pur fi id ops d=some g)
  (C:Jj pur call g A σ=some (A',σ')) (Y:Sim cx a w A σ) {Sl:Nat->Prop} (D:∀t,Sl t->∀(i:Nat) (o:Oper),ops[i]?=some o->o.dst≠some t) (Z:∀a' u,Sim cx a' u A' σ'->(∀t,Sl t->at' a' t=at' a t)->Q .normal a' u):(Code.region id ops d).wpIn (FW ro) n P Q a w:=by
 unfold OU at p
 split at p
 ·rename_i M hl;obtain⟨x,r⟩:=Oq _ _ _ hl;have c:M.length=ops.size:=by simpa using x
  have z  := λi o ao m O=>r i o ao (by rw[Bc];exact m) O
  cases d with
  |false=>
   simp only[Bool.false_eq_true,if_false] at p;cases p;refine wpIn_region ?_
   have:=oq (ro:=ro) (n:=n) hS X c z D Z ops.size 0 am A σ (by simpa using C) a w Y (λ_ _=>rfl)
   rw[List.range_eq_range'];exact this
  |true=>
   simp only[if_true] at p
   split at p
   ·rename_i E;cases p;simp only[Aj] at E;obtain⟨y,l⟩:=E;obtain⟨F,S,e1,e2,V,W,v⟩:=Rl _ _ _ _ _ C;rw[c] at V W v;refine wpIn_region_any J ?_
    have f:∀i,i<=ops.size->(F i).length=(F 0).length:=by
     intro i
     induction i with
     |zero=>intro _;rfl
     |succ i ih=>intro hi;rw[Us (v i am),ih am]
    refine Sj (A:=F) (S:=S) (x:=λi B τ=>H6 pur call (g.getD i default) B τ) (rd:=λi=>(g.getD i default).rd) (wr:=λi=>(g.getD i default).wr)
     (W:=λi=>isW (g.getD i default).k) (H:=λi=>isH (g.getD i default).k) (Pu:=λi=>isP (g.getD i default).k) (E:=Ws) (Sim:=λL w B τ=>Sim cx L w B τ/\∀t,Sl t->at' L t=at' a t)
     (λ_=>rfl) (λ_ _ h=>h.symm) (λ_ _ _ h k=>h.trans k)
     (λi hi hH=>Uq (λ_=>rfl) (v i hi) (λvs rs h=>uM hH h)) f (λi hi t H=>jY (v i hi) t H)
     (λi hi R=>Uq (T:=λs t=>s=t) (λ_=>rfl) (v i hi) (λvs rs h=>bR R h))
     (λi hi h=>AzC h) (λi hi h=>AzE h) ?_ ?_ ?_ ?_ ?_ ops.size (Array.replicate ops.size false) (List.range ops.size) (F 0) (S 0) a _ (by simp) (by simp) (λj q _=>Dy.2 q) ?_ ?_
    ·intro i hi B τ N I R hE;exact jX (by rw[N,f i am]) I R hE (v i hi)
    ·intro i j U q;rcases Tu _ l i j U q with h | h
     ·exact .inl (Rt ops.toList [] [] rfl rfl (λi j h=>by simp at h) i j q h)
     ·exact .inr (RL h)
    ·intro i o m e he hb;have hi:i<ops.size:=(BG.1 m).1;exact PZ ops.size y i o hi m e he hb
    ·intro i hi L w B τ B' τ' K b T hK;have m:ops[i]?=some ops[i]:=Bp hi
     have O:g[i]?=some (g.getD i default):=by
      rw[BA,Af am];rfl
     exact Ur hS X m (z i _ _ m O) b.1 T λa' u h1 h2=>hK a' u ⟨h1,λt H=>(h2 t (D t H i _ m)).trans (b.2 t H)⟩
    ·intro a' u b;rw[V,W] at b;exact Z a' u b.1 b.2
    ·have hL:∀j,(Array.replicate ops.size false).getD j false=false:=by
      intro j;by_cases q:j<ops.size<;>simp[Array.getD,q]
     refine⟨?_,rfl,λt=>⟨0,am,rfl,λj q _=>?_⟩,0,am,rfl,λj q _=>?_⟩
     ·intro j o m hLj
      grind
     ·grind
     grind
    ·rw[e1,e2];obtain⟨G,hi⟩:=Y;exact⟨⟨G,hi.drew⟩,λ_ _=>rfl⟩
   ·cases p
 ·cases p
end
def CE.ex:CE->Exit
 |.normal=>.normal
 |.exit id=>.exit id
 |.ret=>.ret
section
variable{P:Program}{pur:FuncId->Bool}{call:Caller}{fi:FI}{cx:Cx}{G:Gh}{a:Act}{w:World}{A A' B:Frm}{σ σ' τ:Sto}
def JP{b:List Bool}(h:b.length=A.length):(mask b A).length=A.length:=by
 unfold mask;rw[List.length_zipWith];omega
def wI{c:List Bool}{t:Nat}{v:PV}(h:(mask c A).get t=some v):A.get t=some v:=by
 unfold mask Frm.get at h;rw[Ex] at h;unfold Frm.get;cases e:c[t]? with
 |none=>rw[e] at h;simp at h
 |some b=>
  rw[e] at h;cases d:A[t]? with
  |none=>rw[d] at h;simp at h
  |some x=>
   rw[d] at h;dsimp only at h ⊢
   split at h
   ·exact h
   ·cases h
def bN{b:List Bool}(d:b.length=A.length)(c:Sim cx a w A σ):Sim cx a w (mask b A) σ:=by
 obtain⟨G,hi⟩:=c;exact⟨G,hi.forget (JP d) (λt v h=>wI h)⟩
def fO{b:List Bool}{c:Frm->Sto->Option (CE×Frm×Sto)}(f:∀A σ e A' σ',c A σ=some (e,A',σ')->A'.length=A.length):
  ∀(n:Nat) (A:Frm) (σ:Sto) (e:CE) (A':Frm) (σ':Sto),b.length=A.length->iter b c n A σ=some (e,A',σ')->A'.length=A.length
 |0,A,σ,e,A',σ',_,h=>by cases h
 |n+1,A,σ,e,A',σ',j,h=>by
  simp only[iter] at h
  split at h
  ·rename_i A1 i g;have:=f _ _ _ _ _ g;rw[fO f n _ _ _ _ _ (by rw[JP am];omega) h,JP am,this]
  ·exact f _ _ _ _ _ h
def yB{m:Nat}:∀(o:De) (A:Frm) (σ:Sto) (e:CE) (A':Frm) (σ':Sto),Ig pur call m o A σ=some (e,A',σ')->A'.length=A.length:=by
 intro o
 induction o with
 |skip=>intro A σ e A' σ' h;simp only[Ig] at h;cases h;rfl
 |region ops=>
  intro A σ e A' σ' h;simp only[Ig] at h;obtain⟨⟨A1,b⟩,d,q⟩:=Ac.1 h;cases q;exact Rm _ d
 |seq x y f k=>
  intro A σ e A' σ' h;simp only[Ig] at h
  split at h
  ·rename_i A1 b d;rw[k _ _ _ _ _ h,f _ _ _ _ _ d]
  ·exact f _ _ _ _ _ h
 |cond c t e l n=>
  intro A σ e A' σ' h;simp only[Ig] at h
  split at h
  ·exact l _ _ _ _ _ h
  ·exact n _ _ _ _ _ h
  ·cases h
 |block id c g=>
  intro A σ e A' σ' h;simp only[Ig] at h
  split at h
  ·rename_i i A1 b d
   split at h<;>(cases h;exact g _ _ _ _ _ d)
  ·exact g _ _ _ _ _ h
 |loop p c g=>
  intro A σ e A' σ' h;simp only[Ig] at h
  split at h
  ·rename_i j;rw[fO (λA σ e A' σ' h=>g A σ e A' σ' h) _ _ _ _ _ _ (by rw[JP j];exact j) h,JP j]
  ·cases h
 |exit id=>intro A σ e A' σ' h;simp only[Ig] at h;cases h;rfl
 |ret=>intro A σ e A' σ' h;simp only[Ig] at h;cases h;rfl
def least{T:Nat->Prop}(h:∃k,T k):∃k,T k/\∀j,T j->k<=j:=by
 obtain⟨k,d⟩:=h
 induction k using Nat.strongRecOn with
 |_ k e=>
  by_cases h:∃j,j<k/\T j
  ·obtain⟨j,c,f⟩:=h;exact e j c f
  ·exact⟨k,d,λj g=>Nat.le_of_not_lt λb=>h ⟨j,b,g⟩⟩
def EX(t:Nat):Code->Bool
 |.region _ ops _=>ops.toList.all λo=>o.dst != some t
 |.seq x y=>EX t x&&EX t y
 |.cond _ x y=>EX t x&&EX t y
 |.block _ c=>EX t c
 |.loop c=>EX t c
 |_=>true
def IK{ro:Option Nat}{n:Nat}(hS:Iu P call)(hx:Ih cx fi)(hmo:P.follows .mixedOrders=true):∀(c:Code) (C:De),comp P pur fi c=some C->
  ∀(m:Nat) (A:Frm) (σ:Sto) (e:CE) (A':Frm) (σ':Sto),Ig pur call m C A σ=some (e,A',σ')->∀(a:Act) (w:World),Sim cx a w A σ->
  ∀(Q:Exit->Act->World->Prop),(∀a' f,Sim cx a' f A' σ'->(∀t,EX t c=true->at' a' t=at' a t)->Q e.ex a' f)->c.wpIn (FW ro) n P Q a w:=by
 intro c
 induction c with
 |skip=>
  intro C d m A σ e A' σ' h a w p Q g;simp only[comp] at d;cases d;simp only[Ig] at h;cases h;exact wpIn_skip (g a w p λ_ _=>rfl)
 |region id ops N=>
  intro C d m A σ e A' σ' h a w p Q g;simp only[comp] at d;obtain⟨az,has,rfl⟩:=Ac.1 d;simp only[Ig] at h;obtain⟨⟨A1,q⟩,M,R⟩:=Ac.1 h;cases R
  exact Yf hS hx hmo has M p (Sl:=λt=>EX t (.region id ops N)=true) (λt j i o ho=>by
   simp only[EX] at j;have:=Au.1 j o (Am (by rw[Bc];exact ho))
   simpa using this) g
 |seq x y F H=>
  intro C d m A σ e A' σ' h a w p Q g;simp only[comp] at d
  split at d
  ·rename_i Z ay D L;cases d;simp only[Ig] at h;refine wpIn_seq ?_
   split at h
   ·rename_i A1 q M
    exact F Z D m A σ _ A1 q M a w p _ (λa' f b u=>H ay L m A1 q e A' σ' h a' f b Q λa2 w2 hs2 hf2=>g a2 w2 hs2 λt j=>by
     simp only[EX,Aj] at j;exact(hf2 t j.2).trans (u t j.1))
   ·rename_i W;refine F Z D m A σ e A' σ' h a w p _ (λa' f b u=>?_)
    have z:∀t,EX t (.seq x y)=true->at' a' t=at' a t:=λt j=>by
     simp only[EX,Aj] at j;exact u t j.1
    cases e with
    |normal=>exact absurd h (W A' σ')
    |exit id=>exact g a' f b z
    |ret=>exact g a' f b z
  ·cases d
 |cond c x y F H=>
  intro C d m A σ e A' σ' h a w p Q g;simp only[comp] at d
  split at d
  ·rename_i v Z ay s D L;cases d;simp only[Ig] at h;have X:=p;obtain⟨G,hi⟩:=p
   split at h
   ·rename_i J;have:=(Bq hi hx.kd s J rfl).Iq;exact wpIn_cond_true this (F Z D m A σ e A' σ' h a w X Q λa' f b u=>g a' f b λt j=>u t (by simp only[EX,Aj] at j;exact j.1))
   ·rename_i J;have:=(Bq hi hx.kd s J rfl).Iq;exact wpIn_cond_false this (H ay L m A σ e A' σ' h a w X Q λa' f b u=>g a' f b λt j=>u t (by simp only[EX,Aj] at j;exact j.2))
   ·cases h
  ·cases d
 |block id c V=>
  intro C d m A σ e A' σ' h a w p Q g;simp only[comp] at d;obtain⟨v,s,rfl⟩:=Ac.1 d;simp only[Ig] at h;refine wpIn_block ?_
  split at h
  ·rename_i i A1 q M;refine V v s m A σ _ A1 q M a w p _ (λa' f b u=>?_)
   show(if i=id then Q .normal a' f else Q (.exit i) a' f)
   split at h
   ·rename_i R;cases h;rw[if_pos R];exact g a' f b u
   ·rename_i R;cases h;rw[if_neg R];exact g a' f b u
  ·rename_i W;refine V v s m A σ e A' σ' h a w p _ (λa' f b u=>?_)
   cases e with
   |normal=>exact g a' f b u
   |exit id=>exact absurd h (W id A' σ')
   |ret=>exact g a' f b u
 |loop c V=>
  intro C d m A σ e A' σ' h a w p Q g;simp only[comp] at d;obtain⟨v,s,rfl⟩:=Ac.1 d;simp only[Ig] at h
  split at h
  ·rename_i hl
   let r:=fi.keep
   let S:=Ig pur call m v
   let T:Act->World->Nat->Prop:=λa w k=>∃A σ,r.length=A.length/\Sim cx a w A σ/\iter r S k A σ=some (e,A',σ')
   classical
   let Y:Act->World->Nat:=λa w=>if hex:∃k,T a w k then(least hex).choose else 0
   refine wpIn_loop (λI w=>(∃k,T I w k)/\∀t,EX t (.loop c)=true->at' I t=at' a t) Y ⟨⟨m,mask r A,σ,by rw[JP hl];exact hl,bN hl p,h⟩,λ_ _=>rfl⟩ ?_
   rintro I w ⟨hI,hF⟩
   have hμ:Y I w=(least hI).choose:=dif_pos hI;obtain⟨A1,q,hl1,O,l⟩:=(least hI).choose_spec.1;rw[<-hμ] at l;cases hk:Y I w with
   |zero=>rw[hk] at l;simp[iter] at l
   |succ k=>
    rw[hk] at l;simp only[iter] at l
    split at l
    ·rename_i A2 U h2;refine V v s m A1 q _ A2 U h2 I w O _ (λa' f b u=>?_)
     have K:r.length=A2.length:=by rw[yB _ _ _ _ _ _ h2];exact hl1
     have hT:T a' f k:=⟨mask r A2,U,by rw[JP K];exact K,bN K b,l⟩
     refine⟨⟨⟨k,hT⟩,λt j=>(u t j).trans (hF t j)⟩,?_⟩
     have E:∃k,T a' f k:=⟨k,hT⟩;have hμ':Y a' f=(least E).choose:=dif_pos E;have:(least E).choose<=k:=(least E).choose_spec.2 k hT;omega
    ·rename_i W;refine V v s m A1 q e A' σ' l I w O _ (λa' f b u=>?_)
     have z:∀t,EX t (.loop c)=true->at' a' t=at' a t:=λt j=>(u t j).trans (hF t j)
     cases e with
     |normal=>exact absurd l (W A' σ')
     |exit id=>exact g a' f b z
     |ret=>exact g a' f b z
  ·cases h
 |exit id=>
  intro C d m A σ e A' σ' h a w p Q g;simp only[comp] at d;cases d;simp only[Ig] at h;cases h;exact wpIn_exit (g a w p λ_ _=>rfl)
 |ret=>
  intro C d m A σ e A' σ' h a w p Q g;simp only[comp] at d;cases d;simp only[Ig] at h;cases h;exact wpIn_ret (g a w p λ_ _=>rfl)
 |_=>intro C d;simp[comp] at d
end
section
variable{P:Program}{pur:FuncId->Bool}{call:Caller}{fi:FI}{cx:Cx}{G:Gh}{a:Act}{w:World}{A A' B:Frm}{σ σ' τ:Sto}
def Kj{k:SK}(h:k.Nk=true):k.val=true :=  by trivial
def Z9{t:Nat}(h:fi.kind t≠.plain):t<fi.kd.length:=by
 rcases Be t _ with b | b
 ·exact b
 ·exfalso;apply h
  unfold FI.kind
  grind
def wh(h:fi.okB=true):∀t m,(∃c,fi.kind t=.ent m c)->∃b,fi.kind m=.mapb b:=by
 rintro t m ⟨c,d⟩
 have:=Au.1 h t (Dy.2 (Z9 (by grind)))
 grind
def vZ(h:fi.okB=true):∀t c m b,fi.kind t=.ent m b->fi.kind c=.ent m b->t=c:=by
 intro t c m b e d;have:=Au.1 h t (Dy.2 (Z9 (by grind)))
 rw[e] at this;simp only[Aj] at this;have f:=Au.1 this.2 c (Dy.2 (Z9 (by grind)))
 grind
def fA(fi:FI)(b:fi.okB=true)(K:Nat->Prop)(G:Gh)(w:World):Cx:=
 { K,I0:=G.I,w0:=w,bl0:=G.bl,kd:=fi.kind,nt:=fi.nt,al:=fi.alias,ents:=wh b,uniq:=vZ b }
def BVJ(b:fi.okB=true)(K:Nat->Prop)(G:Gh)(w:World):Ih (fA fi b K G w) fi:=⟨λ_=>rfl,rfl,λ_=>rfl⟩
def xH{args:List PV}{k t:Nat}{p:PV}(h:Frm.get (args.map some++List.replicate k none) t=some p):args[t]?=some p:=by
 unfold Frm.get at h
 grind
def Q8{b:Tag}{v:Value}{p:PV}(h:p.Ag=p):EB G w b v p:=by
 rw[<-h];exact Ct p
def fV(j:fi.okB=true){K:Nat->Prop}(b:Pre K G w σ){vs:Array Value}{args:List PV}(c:FX G.I G.bl w vs.toList args)(f:∀p∈args,p.Ag=p)(m:args.length<=fi.nt)
  (e:∀t,t<args.length->(fi.kind t).val=true) (d:Nat) :
  Inv (fA fi j K G w) G { tmps:=vs++Array.replicate (fi.nt - vs.size) undef,defers:=[] } w (args.map some++List.replicate (fi.nt+d - args.length) none) σ:=by
 have l  := by simpa using c.1
 refine⟨rfl,?_,?_,?_,?_,b.obj,b.len,b.abl⟩
 ·show(vs++Array.replicate (fi.nt - vs.size) undef).size=fi.nt
  simp;omega
 ·show fi.nt<=_
  simp;omega
 ·refine⟨λ_ _=>rfl,Same.refl _ _,λ_ _ h=>h,λ_ _ h=>.inl h,b.lt,b.own,b.Klt,Ai _,Bl.le_refl _,rfl,rfl,rfl⟩
 ·intro t p n;have i:=xH n;obtain⟨v,o,k⟩:=c.2 t p i
  have g:at' { tmps:=vs++Array.replicate (fi.nt - vs.size) undef,defers:=[] } t=v:=by
   simp only[at',Ao]
   grind
  rw[Ch (e t ((Ad.1 i).1)) k.free,g];exact⟨k,Q8 (f p (Am i))⟩
def ji(c:Array Value):ResultVar->Sem Value
 |.tmp t=>pure (c.getD t undef)
 |.cell b t=>do loadVar t (<-asAddr (c.getD b undef))
def jh(c:Func)(b:Array Value):results c b=(do let vs <- c.results.mapM (ji b);pure (if h:vs.size=1 then vs[0] else .tuple vs)):=rfl
def K7(hi:Inv cx G a w A σ)(D:Ih cx fi):∀(E:List ResultVar) (O:List (Nat×Option Nat)) (ps:List PV),Jd P fi E=some O->Gu A O=some ps->
  ∃y:List Value,(E.mapM (ji a.tmps)).run P w=.ok y w/\FX G.I G.bl w y ps
 |[],O,ps,k,d=>by
  cases k;cases d;exact⟨[],rfl,rfl,λi p h=>by simp at h⟩
 |.tmp t::E,O,ps,k,d=>by
  simp only[Jd] at k
  split at k
  ·rename_i s;obtain⟨q,o,rfl⟩:=Ac.1 k;simp only[Gu] at d
   split at d
   ·rename_i v vs R x
    split at d
    ·rename_i H;cases d;obtain⟨y,L,z⟩:=K7 hi D E q vs o x;have T:=FU D.kd D.nt s;have N:=((Ch T.2 H).1 (hi.slot t v R)).1;refine⟨at' a t::y,?_,by simp[z.1],λi p d=>?_⟩
     ·rw[List.mapM_cons];simp only[ji,Sem.run_bind,Sem.run_pure,Result.andThen_ok,L];rfl
     ·cases i with
      |zero=>simp at d;subst d;exact⟨_,rfl,N.Ag⟩
      |succ i=>simpa using z.2 i p (by simpa using d)
    ·simp[M5] at d
   ·cases d
  ·cases k
 |.cell t Q::E,O,ps,k,d=>by
  simp only[Jd] at k
  split at k
  ·rename_i n m
   split at k
   ·rename_i s;obtain⟨q,o,rfl⟩:=Ac.1 k;simp only[Gu] at d
    split at d
    ·rename_i v vs R x
     split at d
     ·rename_i H;cases d;obtain⟨y,L,z⟩:=K7 hi D E q vs o x;have U:cx.kd t=.box:=by rw[D.kd];exact s.2
      obtain⟨b,W,g⟩:=(DV U).1 (hi.slot t v R)
      have l:sub v 0 n true=some v:=by
       cases v with
       |agg cs=>
        simp only[LU,fits,Da,Aj,beq_iff_eq,PV.cells] at H;obtain⟨rfl,V⟩:=H;have e:(cs.drop 0).take cs.length=cs:=by simp
        simp only[sub];rw[e,if_pos ⟨am,V⟩]
       |_=>simp[LU,fits] at H
      obtain⟨u,C,F⟩:=IU (P:=P) m g l
      have I:(loadVar Q ⟨b,0,none⟩).run P w=.ok u w:=by
       simpa [Instr.loadAt,Instr.sureAddr] using C
      have J:a.tmps.getD t undef=.pointer (some ⟨b,0,none⟩):=W;refine⟨u::y,?_,by simp[z.1],λi p d=>?_⟩
      ·rw[List.mapM_cons]
       have f:(ji a.tmps (.cell t Q)).run P w=.ok u w:=by
        simp only[ji,Sem.run_bind,J,asAddr,Sem.run_pure,Result.andThen_ok,I]
       simp only[Sem.run_bind,f,Sem.run_pure,Result.andThen_ok,L]
      ·cases i with
       |zero=>simp at d;subst d;exact⟨_,rfl,F.Ag⟩
       |succ i=>simpa using z.2 i p (by simpa using d)
     ·rename_i X;obtain⟨r,f,e⟩:=Ac.1 d;cases e;obtain⟨y,L,z⟩:=K7 hi D E q vs o x;have U:cx.kd t=.box:=by rw[D.kd];exact s.2
      obtain⟨b,W,g⟩:=(DV U).1 (hi.slot t v R);simp only[M5] at f
      split at f
      case isFalse=>cases f
      rename_i K;cases f;cases v with
      |agg cs=>
       simp only[fits,Da,Aj,beq_iff_eq,PV.cells] at K;obtain⟨rfl,M⟩:=K
       have l:Sz (.agg cs) 0 cs.length true=some (.aggr cs):=by
        have e:(cs.drop 0).take cs.length=cs:=by simp
        have S:sub (.agg cs) 0 cs.length true=none:=by
         simp only[sub];rw[e,if_neg]
         rintro⟨_,H⟩
         refine X ?_
         simp only[LU,fits,PV.cells,Da,beq_self_eq_true];exact H
        unfold Sz;rw[S]
        simp only
        rw[e,if_pos ⟨am,by simpa using M⟩]
       obtain⟨u,C,F⟩:=O8 (P:=P) m g l
       have I:(loadVar Q ⟨b,0,none⟩).run P w=.ok u w:=by
        simpa [Instr.loadAt,Instr.sureAddr] using C
       have J:a.tmps.getD t undef=.pointer (some ⟨b,0,none⟩):=W;refine⟨u::y,?_,by simp[z.1],λi p d=>?_⟩
       ·rw[List.mapM_cons]
        have f:(ji a.tmps (.cell t Q)).run P w=.ok u w:=by
         simp only[ji,Sem.run_bind,J,asAddr,Sem.run_pure,Result.andThen_ok,I]
        simp only[Sem.run_bind,f,Sem.run_pure,Result.andThen_ok,L]
       ·cases i with
        |zero=>simp at d;subst d;exact⟨_,rfl,F.Ag⟩
        |succ i=>simpa using z.2 i p (by simpa using d)
      |_=>simp[fits] at K
    ·cases d
   ·cases k
  ·cases k
def OD(hi:Inv cx G a w A σ)(l:Ih cx fi){m:Func}{o:List (Nat×Option Nat)}{ps:List PV}{r:PV}(s:Jd P fi m.results.toList=some o)(t:Gu A o=some ps)(b:CX ps=some r):
  ∃v,(results m a.tmps).run P w=.ok v w/\BF G.I G.bl w v r:=by
 obtain⟨e,y,d⟩:=K7 (P:=P) hi l _ _ _ s t
 have k:(results m a.tmps).run P w=.ok (if h:e.toArray.size=1 then e.toArray[0] else .tuple e.toArray) w:=by
  rw[jh,Array.mapM_eq_mapM_toList];simp only[Sem.run_bind,Sem.run_map,y,Result.andThen_ok,Sem.run_pure]
 rw[k]
 match ps,b,d with
 |[p],b,d=>
  cases b;obtain⟨v,g,c⟩:=d.2 0 _ rfl;have f:=d.1
  match e,f,g with
  |[u],_,g=>
   cases g;exact⟨v,rfl,c⟩
 |[],b,d=>
  have f:=d.1;have:e=[]:=Ak.1 (by simpa using f)
  subst this;simp only[CX] at b;cases b;exact⟨_,rfl,.tuple rfl λi p h=>by simp at h⟩
 |p::q::z,b,d=>
  simp only[CX] at b
  split at b
  ·rename_i j;cases b;have f:=d.1;have n:¬e.toArray.size=1:=by simp at f ⊢;omega
   refine⟨.tuple e.toArray,by rw[dif_neg n],.tuple (by simpa using f) λi x l=>?_⟩
   obtain⟨v,g,c⟩:=d.2 i x l
   have:e.toArray.getD i undef=v:=by
    rw[Ao,Dz,g];rfl
   rw[this];exact c.AKF (Au.1 j x (Am l))
  ·cases b
def gu{f:FuncId}{H:Func}{af:Ay}{n:Nat}{args:List PV}{r:PV}(Q:P.follows .mixedOrders=true)(M:P.funcs[f]?=some H)(z:(H.name == "runtime.NumGoroutine")=false)
  (d:Md P pur fi H=some af) (hS:Iu P call) (I:∀p∈args,p.Ag=p) (h:lS pur call n af args σ=some (r,σ')):LD P f args σ r σ':=by
 unfold Md at d
 split at d
 ·rename_i c k
  split at d
  ·rename_i ac rs T W
   split at d
   ·cases d
   ·rename_i N;cases d;simp only[not_or,ne_eq,Classical.not_not,Bool.not_eq_false] at N;obtain⟨Y,J,C⟩:=N;refine⟨⟨H,M,z,by rw[k];rfl⟩,λm vs w G K l L=>?_⟩
    unfold lS at h
    split at h
    ·rename_i F;obtain⟨R,S⟩:=F;dsimp only at R S h;have E:∀t,t<args.length->(fi.kind t).val=true:=λt ht=>Kj (Au.1 C t (Dy.2 am))
     have y:=fV J L l I am E fi.ps.length
     have hvs:vs.size=args.length:=by simpa using l.1
     have D:=BVJ J K G w
     have q:∀e A1 i,(e=CE.normal\/e=CE.ret)->Ig pur call n ac (args.map some++List.replicate (H.ntmps+fi.ps.length - args.length) none) σ=some (e,A1,i)->
       ((Gu A1 rs).bind λvs=>(CX vs).map λr=>(r,i))=some (r,σ')->
       CallsIn (FW none) m P f vs w λe O=>∃v G',e=.returned v/\BF G'.I G'.bl O v r/\Aft K G w σ' G' O:=by
      intro e A1 i he b j;obtain⟨ps,X,j⟩:=AB.1 j;obtain⟨r',V,e1⟩:=Ac.1 j;cases e1;refine callsIn_of_wp M k trivial ?_
      rw[<-Y] at b ⊢;refine IK hS D Q c ac T n _ σ e A1 σ' b _ w ⟨G,y⟩ _ (λa' O U _=>?_)
      obtain⟨G',g⟩:=U;obtain⟨v,Z,s⟩:=OD (P:=P) g D W X V;have o:=g.base;have u:Aft K G w σ' G' O:=⟨o.keep,o.same,o.sub,o.new,o.lt,o.own,o.grow,o.bl,o.os,o.tape,o.output,g.obj,g.len,g.abl⟩;rcases he with rfl | rfl
      ·exact⟨g.defers,v,Z,v,G',rfl,s,u⟩
      ·exact⟨g.defers,v,Z,v,G',rfl,s,u⟩
     split at h
     ·rename_i A1 i b;exact q _ A1 i (.inl rfl) b h
     ·rename_i A1 i b;exact q _ A1 i (.inr rfl) b h
     ·cases h
    ·cases h
  ·cases d
 ·cases d
end
abbrev FF:=List (Nat×Option PV)
noncomputable section
abbrev RFS:=Option (FF×Sto)
abbrev RX:=Option (CE×FF×Sto)
def FQ(ff:FF)(t:Nat):Option PV:=List.rec (motive:=λ_=>Option PV) none (λp _ a=>cond (Nat.beq p.1 t) p.2 a) ff
def EF(ff:FF)(c:List CW):Option (List PV):=
 List.rec (motive:=λ_=>Option (List PV)) (some []) (λa _ b=>CW.rec (motive:=λ_=>Option (List PV))
  (λt=>Option.rec (motive:=λ_=>Option (List PV)) none (λv=>Option.rec (motive:=λ_=>Option (List PV)) none (λvs=>some (v::vs)) b) (FQ ff t))
  (λv=>Option.rec (motive:=λ_=>Option (List PV)) none (λvs=>some (v::vs)) b) a) c
def Wh(ts:List Nat):List (Option PV)->FF->FF:=
 List.rec (motive:=λ_=>List (Option PV)->FF->FF) (λ_ ff=>ff) (λt _ a vs ff=>List.rec (motive:=λ_=>FF) ff (λv vs _=>a vs ((t,v)::ff)) vs) ts
def H9(v:Option PV)(b:Bool):Option Bool:=
 match v with
  |some (.bool c)=>some (c==b)
  |some (.tuple [])=>some false
  |_=>none
def Kz(pur:FuncId->Bool)(call:Caller)(o:AOp)(ff:FF)(a:Sto):RFS:=
 Option.rec (motive:=λ_=>RFS) none (λvs=>
  Option.rec (motive:=λ_=>RFS) none (λr => 
   cond (Nat.beq r.1.length (o.dst.toList.length+o.ex.length)) (some (Wh o.wr (r.1++o.clr.map λ_=>none) ff,r.2))
    (cond (o.dst.isNone&&o.ex.isEmpty&&o.clr.isEmpty) (some (ff,r.2)) none)) (sem pur call o.k vs a)) (EF ff o.args)
def Jk(pur:FuncId->Bool)(call:Caller)(o:AOp)(ff:FF)(a:Sto):RFS:=
 Option.rec (motive:=λ_=>RFS) (Kz pur call o ff a) (λg => 
  Option.rec (motive:=λ_=>RFS) none (λb=>cond b (Kz pur call o ff a) (cond (o.ex.isEmpty&&o.clr.isEmpty) (some (Wh o.wr [some Li] ff,a)) none)) (H9 (FQ ff g.1) g.2)) o.guard
def ou(pur:FuncId->Bool)(call:Caller)(c:List AOp):FF->Sto->RX:=
 List.rec (motive:=λ_=>FF->Sto->RX) (λff a=>some (.normal,ff,a)) (λo _ b ff a=>
  Option.rec (motive:=λ_=>RX) none (λr=>b r.1 r.2) (Jk pur call o ff a)) c
def Hy(e:CE):Bool:=CE.rec (motive:=λ_=>Bool) true (λ_=>false) false e
def F7(ff:FF)(a:List Bool):Nat->FF:=
 List.rec (motive:=λ_=>Nat->FF) (λ_=>[]) (λb _ c n=>cond b ((n,FQ ff n)::c (n+1)) (c (n+1))) a
def fP(b:List Bool)(a:FF->Sto->RX)(n:Nat):FF->Sto->RX:=
 Nat.rec (motive:=λ_=>FF->Sto->RX) (λ_ _=>none) (λ_ d ff c=>
  Option.rec (motive:=λ_=>RX) none (λr=>cond (Hy r.1) (d (F7 r.2.1 b 0) r.2.2) (some r)) (a ff c)) n
def gQ(v:Option (List PV))(x y:RX):RX:=match v with
 |some [.bool b]=>cond b x y
 |_=>none
def Gd(pur:FuncId->Bool)(call:Caller)(n:Nat)(c:De):FF->Sto->RX:=
 De.rec (motive:=λ_=>FF->Sto->RX)
  (λff a=>some (.normal,ff,a))
  (λops=>ou pur call ops)
  (λ_ _ h f ff a=>Option.rec (motive:=λ_=>RX) none (λr=>cond (Hy r.1) (f r.2.1 r.2.2) (some r)) (h ff a))
  (λc _ _ e g ff a=>gQ (EF ff [c]) (e ff a) (g ff a))
  (λid _ d ff a=>Option.rec (motive:=λ_=>RX) none (λr=>CE.rec (motive:=λ_=>RX) (some r) (λi=>cond (Nat.beq i id) (some (.normal,r.2)) (some r)) (some r) r.1) (d ff a))
  (λb _ d ff a=>fP b d n (F7 ff b 0) a)
  (λid ff a=>some (.exit id,ff,a))
  (λff a=>some (.ret,ff,a)) c
def Np(args:List PV):Nat->FF:=List.rec (motive:=λ_=>Nat->FF) (λ_=>[]) (λa _ b n=>(n,some a)::b (n+1)) args
def FE(ff:FF)(b:List (Nat×Option Nat)):Option (List PV):=
 List.rec (motive:=λ_=>Option (List PV)) (some []) (λr _ a=>match FQ ff r.1,a with
  |some v,some vs=>if LU v r.2 then some (v.Ag::vs) else(M5 v r.2).map λr=>r::vs
  |_,_=>none) b
def Lp(pur:FuncId->Bool)(call:Caller)(n:Nat)(a:Ay)(args:List PV)(b:Sto):Option (PV×Sto):=
 cond (Nat.beq args.length a.nargs&&Nat.ble args.length a.ntmps)
  (Option.rec (motive:=λ_=>Option (PV×Sto)) none (λr=>CE.rec (motive:=λ_=>Option (PV×Sto)) ((FE r.2.1 a.results).bind λvs=>(CX vs).map λx=>(x,r.2.2)) (λ_=>none)
   ((FE r.2.1 a.results).bind λvs=>(CX vs).map λx=>(x,r.2.2)) r.1) (Gd pur call n a.code (Np args 0) b)) none
def vW(N:Nat)(o:AOp):Bool:=o.wr.all λt=>Nat.blt t N
def GZ(N:Nat):De->Bool
 |.region ops=>ops.all (vW N)
 |.seq a b=>GZ N a&&GZ N b
 |.cond _ t e=>GZ N t&&GZ N e
 |.block _ c=>GZ N c
 |.loop f c=>Nat.beq f.length N&&GZ N c
 |_=>true
abbrev Nw:=Caller->List PV->Sto->Option (PV×Sto)
def yl(pur:FuncId->Bool)(a:FuncId->Option Nw)(b:FuncId->Option Ay)(n:Nat):Caller:=
 Nat.rec (motive:=λ_=>Caller) (λ_ _ _=>none) (λn d f args c=>Option.rec (motive:=λ_=>Option (PV×Sto))
  (Option.rec (motive:=λ_=>Option (PV×Sto)) none (λe=>Lp pur d n e args c) (b f)) (λg=>g d args c) (a f)) n
end
structure Rel(N:Nat)(ff:FF)(A:Frm):Prop where
 len:A.length=N
 get:∀t v,FQ ff t=some v->A.get t=some v
section
variable{P:Program}{pur:FuncId->Bool}{call:Caller}{N:Nat}{ff D:FF}{A:Frm}{σ F:Sto}
def L6(p:Nat×Option PV)(ff:FF)(t:Nat):FQ (p::ff) t=cond (Nat.beq p.1 t) p.2 (FQ ff t):=rfl
def NP(h:Rel N ff A):∀(c:List CW) (vs:List PV),EF ff c=some vs->Cc A c=some vs
 |[],vs,e=>by cases e;rfl
 |.slot t::c,vs,e=>by
  have a:(Option.rec _ (λv=>Option.rec none (λvs=>some (v::vs)) (EF _ _)) _)=some _:=e
  cases f:FQ ff t with
  |none=>simp_all
  |some v=>
   rw[f] at a;cases d:EF ff c with
   |none=>simp_all
   |some g=>
    rw[d] at a;cases a
    simp  [Cc,h.get t v f,NP h _ _ d]
 |.val v::c,vs,e=>by
  have a:(Option.rec none _ (EF _ _))=some _:=e;cases d:EF _ _ with
  |none=>rw[d] at a;cases a
  |some g=>
   rw[d] at a;cases a
   simp  [Cc,NP h c _ d,AJ]
def Tq:∀(ts:List Nat) (vs:List (Option PV)) {ff:FF} {A:Frm},Rel N ff A->(∀t∈ts,t<N)->Rel N (Wh ts vs ff) (Dw A ts vs)
 |[],vs,ff,A,h,_=>by cases vs<;>exact h
 |t::ts,[],ff,A,h,_=>h
 |t::ts,v::vs,ff,A,h,d=>by
  refine Tq _ vs ⟨by rw[C9];exact h.len,λs x b=>?_⟩ (λs f=>d s (AP _ f))
  rw[L6] at b;rw[Dp];cases c:Nat.beq t s with
  |true=>
   rw[c] at b;have  := CQ c;subst this;rw[if_pos ⟨rfl,by rw[h.len];simp_all⟩]
   exact b
  |false=>
   rw[c] at b;rw[if_neg (λe=>(Nat.ne_of_beq_eq_false c) e.1.symm)]
   exact h.get s x b
def WW{o:AOp}(h:vW N o=true):∀t∈o.wr,t<N:=by
 intro t a;have:=Au.1 h t a
 simp_all
def bY{o:AOp}(h:Rel N ff A)(e:vW N o=true)(a:Kz pur call o ff σ=some (D,F)):∃A',Cb pur call o A σ=some (A',F)/\Rel N D A':=by
 unfold Kz at a;cases d:EF ff o.args with
 |none=>simp_all
 |some vs=>
  rw[d] at a
  dsimp  at a
  cases c:sem pur call o.k vs σ with
  |none=>simp_all
  |some r=>
   rw[c] at a;dsimp only at a;unfold Cb;rw[NP h _ _ d];dsimp only;rw[c]
   dsimp 
   cases b:Nat.beq _ _ with
   |true=>
    rw[b] at a;cases a;rw[if_pos (CQ b)];exact⟨_,rfl,Tq _ _ h (WW e)⟩
   |false=>
    rw[b] at a;rw[if_neg (Nat.ne_of_beq_eq_false b)]
    grind
def pz{o:AOp}(h:Rel N ff A)(j:vW N o=true)(a:Jk pur call o ff σ=some (D,F)):∃A',H6 pur call o A σ=some (A',F)/\Rel N D A':=by
 unfold Jk at a;unfold H6;cases k:o.guard with
 |none=>
  rw[k] at a;exact bY h j a
 |some g=>
  let ⟨t,b⟩:=g
  rw[k] at a
  dsimp  at a
  have l:∀x,H9 (FQ ff t) b=some x->Iy A (some (t,b))=some x:=by
   intro x f
   simp  [Iy]
   cases c:FQ _ t with
   |none=>rw[c] at f;simp[H9] at f
   |some v=>
    rw[c] at f;rw[h.get t v c];unfold H9 at f;omega
  cases e:H9 (FQ ff t) b with
  |none=>simp_all
  |some x=>
   rw[e] at a;rw[l x e];cases x with
   |true=>exact bY h j a
   |false=>
    have d  := a;cases i:(o.ex.isEmpty&&o.clr.isEmpty) with
    |true=>
     rw[i] at d;cases d
     simp  [Aj,DF] at i
     rw[if_pos i];exact⟨_,rfl,Tq _ _ h (WW j)⟩
    |false=>grind
def fo:∀(c:List AOp) {ff:FF} {A:Frm} {σ:Sto} {e:CE} {D:FF} {F:Sto},Rel N ff A->c.all (vW N)=true->ou pur call c ff σ=some (e,D,F)->
  e=.normal/\∃A',Jj pur call c A σ=some (A',F)/\Rel N D A'
 |[],ff,A,σ,e,D,F,h,_,d=>by cases d;exact⟨rfl,A,rfl,h⟩
 |o::c,ff,A,σ,e,D,F,h,f,d=>by
  simp only[Dv,Aj] at f;have b:Option.rec _ _ _=some _:=d;cases g:Jk pur call o ff σ with
  |none=>simp_all
  |some r=>
   rw[g] at b
   let ⟨_,i,m⟩:=pz h f.1 g
   let ⟨k,A',l,j⟩:=fo _ m f.2 b
   refine⟨k,_,?_,j⟩
   simp  [Jj,i,l]
def Xm(ff:FF):∀(a:List Bool) (n t:Nat) (v:PV),FQ (F7 ff a n) t=some v->FQ ff t=some v/\n<=t/\a[t - n]?=some true
 |[],n,t,v,h=>by cases h
 |b::a,n,t,v,h=>by
  have f  := h
  have c:FQ (F7 ff a (n+1)) t=some v->FQ ff t=some v/\n<=t/\(b::a)[t - n]?=some true:=by
   intro h
   let ⟨_,_,_⟩:=Xm _ _ _ t v h
   grind
  cases b with
  |false=>exact c f
  |true=>
   have e:cond _ _ _=some v:=f;cases g:Nat.beq n t with
   |true=>
    simp_all
   |false=>rw[g] at e;exact c e
def fB{a:List Bool}(c:a.length=N)(h:Rel N ff A):Rel N (F7 ff a 0) (mask a A):=by
 refine⟨by rw[JP (by rw[c,h.len])];exact h.len,λt v e=>?_⟩
 let ⟨b,_,_⟩:=Xm _ _ 0 t v e
 have d:=h.get t v b;unfold Frm.get at d ⊢;unfold mask
 grind
def Xg{b:List Bool}(g:b.length=N){a:FF->Sto->RX}{c:Frm->Sto->Option (CE×Frm×Sto)}
  (k:∀ff A σ e D F,Rel N ff A->a ff σ=some (e,D,F)->∃A',c A σ=some (e,A',F)/\Rel N D A') :
  ∀(n:Nat) (ff:FF) (A:Frm) (σ:Sto) (e:CE) (D:FF) (F:Sto),Rel N ff A->fP b a n ff σ=some (e,D,F)->∃A',iter b c n A σ=some (e,A',F)/\Rel N D A'
 |0,ff,A,σ,e,D,F,_,h=>by cases h
 |n+1,ff,A,σ,e,D,F,m,h=>by
  have f:Option.rec _ _ _=some _:=h;cases j:a ff σ with
  |none=>simp_all
  |some r=>
   let ⟨o,_,_⟩:=r
   rw[j] at f
   let ⟨_,l,p⟩:=k _ _ _ _ _ _ m j
   simp  [iter,l]
   cases o with
   |normal=>exact Xg g k n _ _ _ _ _ _ (fB g p) f
   |exit i=>cases f;simp_all
   |ret=>cases f;grind
def XG{n:Nat}:∀(c:De) (ff:FF) (A:Frm) (σ:Sto) (e:CE) (D:FF) (F:Sto),GZ N c=true->Rel N ff A->Gd pur call n c ff σ=some (e,D,F)->
  ∃A',Ig pur call n c A σ=some (e,A',F)/\Rel N D A':=by
 intro c
 induction c with
 |skip=>intro ff A σ e D F _ a h;cases h;exact⟨A,rfl,a⟩
 |region ops=>
  intro ff A σ e D F f a h;obtain⟨rfl,A',k,g⟩:=fo ops a f h;exact⟨A',by simp only[Ig,k,AJ],g⟩
 |seq x y q s=>
  intro ff A σ e D F f a h;simp only[GZ,Aj] at f;have d:Option.rec (motive:=λ_=>RX) none _ (Gd pur call n x ff σ)=some (e,D,F):=h
  cases j:Gd pur call n x ff σ with
  |none=>rw[j] at d;cases d
  |some r=>
   obtain⟨u,p,v⟩:=r;rw[j] at d;obtain⟨A1,k,g⟩:=q _ _ _ _ _ _ f.1 a j;simp only[Ig,k];cases u with
   |normal=>exact s _ _ _ _ _ _ f.2 g d
   |exit i=>cases d;exact⟨A1,rfl,g⟩
   |ret=>cases d;exact⟨A1,rfl,g⟩
 |cond c t e B C=>
  intro ff A σ e D F f a h;simp only[GZ,Aj] at f;have d:gQ (EF ff [c]) (Gd pur call n t ff σ) (Gd pur call n _ ff σ)=some (e,D,F):=h;unfold gQ at d
  split at d
  ·rename_i b o;have:=NP a _ _ o;simp only[Ig,this]
   grind
  ·cases d
 |block id c z=>
  intro ff A σ e D F f a h;have d:Option.rec none _ (Gd pur call n c ff σ)=some (e,D,F):=h;cases j:Gd pur call n c ff σ with
  |none=>rw[j] at d;cases d
  |some r=>
   obtain⟨u,p,v⟩:=r;rw[j] at d;obtain⟨A1,k,g⟩:=z _ _ _ _ _ _ f a j;simp only[Ig,k];cases u with
   |normal=>grind
   |exit i=>
    have l:cond (Nat.beq i id) _ _=some (e,D,F):=d;cases o:Nat.beq i id with
    |true=>
     simp_all
    |false=>
     rw[o] at l;cases l;dsimp only;rw[if_neg (Nat.ne_of_beq_eq_false o)];exact⟨A1,rfl,g⟩
   |ret=>cases d;exact⟨A1,rfl,g⟩
 |loop m c z=>
  intro ff A σ e D F f a h;simp only[GZ,Aj] at f;have w:m.length=N:=CQ f.1;simp only[Ig];rw[if_pos (by rw[w,a.len])]
  exact Xg w (λff A σ e D F a h=>z ff A σ e D F f.2 a h) n _ _ _ _ _ _ (fB w a) h
 |exit id=>intro ff A σ e D F _ a h;cases h;exact⟨A,rfl,a⟩
 |ret=>intro ff A σ e D F _ a h;cases h;exact⟨A,rfl,a⟩
def Xn:∀(args:List PV) (n t:Nat) (v:PV),FQ (Np args n) t=some v->n<=t/\args[t - n]?=some v
 |[],n,t,v,h=>by cases h
 |a::args,n,t,v,h=>by
  have c:cond _ _ _=some v:=h;cases d:Nat.beq n t with
  |true=>
   simp_all
  |false=>
   rw[d] at c
   let ⟨_,_⟩:=Xn _ _ t v c
   grind
def cz(h:Rel N ff A):∀(d:List (Nat×Option Nat)) (vs:List PV),FE ff d=some vs->Gu A d=some vs
 |[],vs,c=>by cases c;rfl
 |(t,n)::d,vs,c=>by
  have a:(match FQ _ t,FE _ _ with | some v,some _=>if LU v n then some _ else(M5 v n).map _ | _,_=>none)=some _:=c
  split at a
  ·rename_i v g f e
   simp  [Gu,h.get t v f,cz h _ _ e]
   exact a
  ·cases a
def SV{n:Nat}{a:Ay}{args:List PV}{r:PV×Sto}(p:GZ (a.ntmps+a.extra) a.code=true)(h:Lp pur call n a args σ=some r):lS pur call n a args σ=some r:=by
 unfold Lp at h;cases f:(Nat.beq args.length a.nargs&&Nat.ble args.length a.ntmps) with
 |false=>grind
 |true=>
  rw[f] at h;simp only[Aj] at f;have k  := Nat.le_of_ble_eq_true f.2;unfold lS;rw[if_pos ⟨(CQ f.1),k⟩]
  have c:Rel (a.ntmps+a.extra) (Np args 0) (args.map some++List.replicate (a.ntmps+a.extra - args.length) none):=by
   refine⟨by grind,λt v d=>?_⟩
   obtain⟨_,d⟩:=Xn _ 0 t v d;unfold Frm.get
   grind
  cases g:Gd pur call n _ _ σ with
  |none=>rw[g] at h;cases h
  |some x=>
   let ⟨e,D,F⟩:=x
   rw[g] at h
   let ⟨A',l,m⟩:=XG _ _ _ _ _ _ _ p c g
   rw[l]
   have b:((FE D a.results).bind λvs=>(CX vs).map λx=>(x,F))=some r->((Gu A' a.results).bind λvs=>(CX vs).map λx=>(x,F))=some r:=by
    intro j;obtain⟨vs,d,o⟩:=AB.1 j;rw[cz m _ _ d];exact o
   cases e with
   |normal=>exact b h
   |exit i=>cases h
   |ret=>exact b h
def AZH(P:Program)(pur:FuncId->Bool)(b:FuncId->Option Ay):Prop:=
 ∀f a,b f=some a->∃c fi,P.funcs[f]?=some c/\(c.name == "runtime.NumGoroutine")=false/\Md P pur fi c=some a/\GZ (a.ntmps+a.extra) a.code=true
def Jo(P:Program)(f:FuncId)(g:Nw):Prop:=
 ∀call,Iu P call->∀args σ r F,(∀p∈args,p.Ag=p)->g call args σ=some (r,F)->LD P f args σ r F
def Nt{b:FuncId->Option Nw}{i:FuncId->Option Ay}(j:P.follows .mixedOrders=true)(e:AZH P pur i)(a:∀f g,b f=some g->Jo P f g):∀n,Iu P (yl pur b i n)
 |0=>by intro f args σ r F _ h;cases h
 |n+1=>by
  intro f args σ r F d h;have o:=Nt j e a n;have k:Option.rec _ _ _=some _:=h;cases l:b f with
  |some g=>
   rw[l] at k;exact a f g l _ o _ _ r _ d k
  |none=>
   rw[l] at k;cases m:i f with
   |none=>simp_all
   |some u=>
    rw[m] at k
    let ⟨_,_,p,s,q,t⟩:=e f _ m
    exact gu j p s q o d (SV t k)
end
end Go.Abs

namespace Go.Abs.T
abbrev m(d s:Nat):AOp:=⟨none,some d,.p .mv,[.slot s],[],[]⟩
abbrev v(d:Nat)(x:PV):AOp:=⟨none,some d,.p .mv,[.val x],[],[]⟩
abbrev o(d:Nat)(k:AK)(xs:List CW):AOp:=⟨none,some d,k,xs,[],[]⟩
abbrev u(k:AK)(xs:List CW):AOp:=⟨none,none,k,xs,[],[]⟩
abbrev g(t:Nat)(b:Bool)(d:Nat)(k:AK)(xs:List CW):AOp:=⟨some (t,b),some d,k,xs,[],[]⟩
abbrev n(t:Nat)(b:Bool)(d s:Nat):AOp:=⟨some (t,b),some d,.p .mv,[.slot s],[],[]⟩
abbrev e(d:Nat)(k:AK)(xs:List CW)(a:List Nat):AOp:=⟨none,some d,k,xs,a,[]⟩
abbrev h(k:AK)(xs:List CW)(a:List Nat):AOp:=⟨none,none,k,xs,a,[]⟩
abbrev s(n:Nat):CW:=.slot n
abbrev i(n:Int):CW:=.val (.int .i64 n)
abbrev b(x:Bool):CW:=.val (.bool x)
abbrev S(x:List UInt8):PV:=.str x
abbrev I(x:Int):PV:=.int .i64 x
abbrev R(x:List AOp):De:=.region x
abbrev q(x y:De):De:=.seq x y
abbrev C(n:Nat)(x y:De):De:=.cond (.slot n) x y
abbrev B(n:Nat)(x:De):De:=.block n x
abbrev L(k:List Bool)(x:De):De:=.loop k x
abbrev L1:AK:=.r (.ld 1 false)
abbrev L5:AK:=.r (.ld 5 true)
abbrev f(n:Nat):AK:=.p (.fa n 1 false)
abbrev y(x:BinOp):AK:=.p (.bin x 0)
abbrev c(n:Nat):AK:=.c n
abbrev w(n:Nat):AK:=.w (.call n)
abbrev pk:AK:=.p .pick
abbrev t(l:List Bool):List Bool:=true::l
abbrev f1(l:List Bool):List Bool:=false::l
abbrev f2(l:List Bool):List Bool:=false::false::l
abbrev f4(l:List Bool):List Bool:=false::false::false::false::l
abbrev f8(l:List Bool):List Bool:=f4 (f4 l)
abbrev f16(l:List Bool):List Bool:=f8 (f8 l)
abbrev f32(l:List Bool):List Bool:=f16 (f16 l)
end Go.Abs.T

namespace Go.Abs.Z
open Go.Abs.T
abbrev pL:SK:=.plain
abbrev iM:SK:=.imm
def kS:Nat->Nat->List SK
 |0,_=>[]
 |l+1,n=>(match n % 4 with | 0=>.plain | 1=>.imm | 2=>.box | _=>.obj)::kS l (n / 4)
def bS:Nat->Nat->List Bool
 |0,_=>[]
 |l+1,n=>Nat.beq (n % 2) 1::bS l (n / 2)
def fI(l k m a:Nat)(d:List (Nat×Nat×Nat))(c:List (Nat×Nat):=[])(ps:List (Nat×Nat×Nat):=[])(b:Option (Nat×Nat):=some (125,5)):FI:={ kd:=kS l k,al:=c,keep:=bif Nat.beq m 0 then[] else bS a m,nt:=a,ps:=ps,bt:=b,md:=d }
def pur(f:FuncId):Bool:=!([36,37,38,39,40,41,42,43,53,54,55,75,76,81,82,83,84,85,86,87,88,102,103,104,105,106,107,108,109,112,113,115,117,131,138,139,140,151,154,156,158,175,197,198,230,231,232,233,234,235,236,237,238,239,251,258,259,266,268,269,270,271,272,273,274,275,276,277,278,284,285,286,287,288,289,290,293,294,295,297,298,299,300,301,302,303,307,308,309,310,311,312,313,314,315,316,317,318,319,320]:List Nat).contains f
def fi4:=fI 14 0x8044000 0x3e7c00000000040000002287 123 [] [(78,13),(82,13),(84,13),(89,13),(96,13),(101,13),(106,13),(109,13),(113,13)]
def fi5:=fI 3 16 98 26 []
def fi6:=fI 21 0x11110410410 0 125 []
def fi7:=fI 11 0x251400 0 19 []
def fi9:=fI 9 0x24500 0 17 []
def BV3:=fI 3 32 0xe700000e5 72 []
def BKZ:=fI 9 0x25400 0 17 []
def BKY:=fI 0 0 0xf0000e3 42 []
def BKX:=fI 2 4 26 23 []
def fi15:=fI 7 4128 0 18 [(5,0,3)]
def fi16:=fI 7 4128 0 18 [(5,0,3)]
def fi17:=fI 7 4160 0 19 []
def BKL:=fI 14 0x5120400 0 66 []
def BKK:=fI 12 0x409400 0 105 []
def BKJ:=fI 2 4 0 10 []
def BKI:=fI 5 320 0 23 []
def BKH:=fI 4 80 0 17 []
def BKG:=fI 0 0 0 27 []
def BKE:=fI 10 0x92500 0 73 [] [(65,9),(66,9),(68,9),(71,9)]
def BKD:=fI 0 0 0 13 []
def BKC:=fI 6 1024 0 43 []
def BKB:=fI 0 0 0 10 []
def BKA:=fI 4 192 88 35 []
def BK9:=fI 0 0 0 14 []
def BK8:=fI 0 0 0 14 []
def BK7:=fI 3 32 61 33 []
def BK6:=fI 8 21536 0 30 []
def BK5:=fI 7 4096 0 55 []
def BK4:=fI 0 0 0 29 []
def BK3:=fI 12 0xa00000 0 57 [] [(38,11),(47,11),(55,11)]
def BK2:=fI 0 0 0x1fff83823 51 []
def BK1:=fI 0 0 0x3ffc01800000000059 89 []
def BK0:=fI 16 0x40109400 0 122 []
def BJZ:=fI 10 0x42440 0 46 []
def BJY:=fI 5 256 0 65 []
def BJX:=fI 5 544 0x3e0714 31 [] [(18,2),(24,2)]
def BJW:=fI 2 4 0 13 []
def BJV:=fI 6 1088 0 21 []
def BJU:=fI 6 1344 0 36 []
def BJT:=fI 11 0x125200 307 66 []
def fi54:=fI 4 64 0 41 []
def BJS:=fI 19 0x1419515420 0 164 []
def BJR:=fI 7 4672 0 40 []
def fi57:=fI 9 0x1fc50 0 35 []
def BJQ:=fI 12 0x43c010 0x380384 40 []
def BJP:=fI 0 0 0 9 []
def fi60:=fI 7 5700 0 49 []
def BJO:=fI 3 16 0 22 []
def BJN:=fI 6 1024 0 37 []
def BJM:=fI 0 0 0 23 []
def BJL:=fI 0 0 7683 17 []
def BJK:=fI 3 32 21 21 [] [(19,2)]
def BJJ:=fI 0 0 3 16 []
def BJI:=fI 0 0 3 22 []
def BJH:=fI 0 0 0 8 []
def BJG:=fI 0 0 49 42 []
def BJF:=fI 0 0 0 18 []
def BJE:=fI 0 0 0 10 []
def BJD:=fI 0 0 0 11 []
def BJC:=fI 9 81952 0 50 []
def BJB:=fI 0 0 0 10 []
def BJA:=fI 3 32 29 33 []
def BJ9:=fI 3 32 0 13 []
def BJ8:=fI 3 32 29 30 []
def BJ7:=fI 0 0 49 34 []
def BJ6:=fI 4 64 0 11 []
def BJ5:=fI 2 4 0 10 []
def BJ4:=fI 13 0x1200400 0 60 []
def BJ3:=fI 12 0x400040 0x60030001c3ce 58 []
def BJ2:=fI 0 0 49 41 []
def BJ1:=fI 8 16384 28705 29 []
def BJ0:=fI 0 0 0 39 []
def BZZ:=fI 2 4 0 10 []
def BZY:=fI 0 0 0 8 []
def BZX:=fI 4 80 0 20 []
def AZ7:=fI 2 4 0 47 []
def AZ6:=fI 3 16 0 30 []
def AZ5:=fI 9 81952 77 105 []
def AZ4:=fI 0 0 0 15 []
def AZ3:=fI 7 9504 0 38 []
def AZ2:=fI 0 0 0 31 []
def AZ1:=fI 0 0 0 30 []
def AZ0:=fI 0 0 9 25 []
def AXZ:=fI 6 1312 0 38 []
def AXY:=fI 3 32 0x1ffc00d 32 []
def AXX:=fI 3 32 0 10 []
def AXW:=fI 4 80 0 38 []
def BV2:=fI 0 0 32271 24 []
def BV1:=fI 4 80 0 6 []
def AXV:=fI 9 65536 0x3e7c03861 56 []
def AXU:=fI 0 0 0 11 []
def BV0:FI:={ kd:=[.plain,.imm,.plain,.plain,.plain,.imm,.plain,.plain,.plain,.plain,.plain,.mapb [.i .i64 0,.i .i64 2,.i .i64 3,.i .i64 4,.i .i64 5,.i .i64 6,.i .i64 7,.i .i64 8,.i .i64 9,.i .i64 10,.i .i64 11,.i .i64 12,.i .i64 13,.i .i64 14,.i .i64 15,.i .i64 16,.i .i64 17,.i .i64 18,.i .i64 19,.i .i64 20,.i .i64 21,.i .i64 22,.i .i64 23,.i .i64 24,.i .i64 25,.i .i64 26,.i .i64 27,.i .i64 28,.i .i64 29],.plain,.plain,.plain,.plain,.plain,.plain,.plain,.plain,.plain,.plain,.plain,.plain,.plain,.plain,.plain,.plain,.plain,.plain,.plain,.plain,.plain,.plain,.plain,.plain,.plain,.plain,.plain,.plain,.plain,.plain,.plain,.plain,.plain,.plain,.plain,.plain,.plain,.plain,.plain,.plain,.plain,.plain,.plain,.plain,.plain,.plain,.plain,.plain,.plain,.plain,.plain,.plain,.plain,.plain,.plain,.plain,.plain,.plain,.plain,.plain,.plain,.plain,.plain,.plain,.plain,.plain,.plain,.plain,.plain,.plain,.plain,.plain,.plain,.plain,.plain,.plain,.plain,.plain,.plain,.plain,.plain,.plain,.plain,.plain,.plain,.plain,.plain,.plain,.plain,.plain,.plain,.plain,.plain,.plain,.plain,.plain,.plain,.plain,.plain,.plain,.plain,.plain,.plain,.plain,.plain,.plain,.plain,.ent 11 (.i .i64 0),.ent 11 (.i .i64 2),.ent 11 (.i .i64 3),.ent 11 (.i .i64 4),.ent 11 (.i .i64 5),.ent 11 (.i .i64 6),.ent 11 (.i .i64 7),.ent 11 (.i .i64 8),.ent 11 (.i .i64 9),.ent 11 (.i .i64 10),.ent 11 (.i .i64 11),.ent 11 (.i .i64 12),.ent 11 (.i .i64 13),.ent 11 (.i .i64 14),.ent 11 (.i .i64 15),.ent 11 (.i .i64 16),.ent 11 (.i .i64 17),.ent 11 (.i .i64 18),.ent 11 (.i .i64 19),.ent 11 (.i .i64 20),.ent 11 (.i .i64 21),.ent 11 (.i .i64 22),.ent 11 (.i .i64 23),.ent 11 (.i .i64 24),.ent 11 (.i .i64 25),.ent 11 (.i .i64 26),.ent 11 (.i .i64 27),.ent 11 (.i .i64 28),.ent 11 (.i .i64 29)],al:=[],keep:=[],nt:=119,ps:=[(4,2,119),(4,6,120),(4,11,121),(4,17,122),(4,25,123),(4,29,124),(4,34,125),(4,39,126),(4,42,127),(4,44,128),(4,46,129),(4,52,130),(4,56,131),(4,64,132),(4,69,133),(4,76,134),(4,81,135),(4,85,136),(4,89,137),(4,92,138),(4,98,139),(4,104,140),(4,109,141),(4,111,142),(4,115,143),(4,118,144),(4,122,145),(4,128,146),(4,135,147)],bt:=some (125,5),md:=[] }
def AXT:=fI 2 4 0 4 []
def AXS:=fI 7 4176 0x1c0000000004 64 []
def AXR:=fI 0 0 0xe7c0007801fe0000000000000000007e3 143 []
def AXQ:=fI 0 0 0 10 []
def AXP:=fI 0 0 35 19 []
def AXO:=fI 0 0 0x3c00ffc03 40 []
def AXN:=fI 0 0 0x3cf3e00003c00003fffc0043 98 []
def AXM:=fI 7 4128 0 24 []
def AXL:=fI 3 32 0 52 []
def AXK:=fI 0 0 0 18 []
def AXJ:=fI 0 0 0 9 []
def AXI:=fI 0 0 0 8 []
def AXH:=fI 11 0x200800 0 52 [(2,11,4),(3,0,14),(6,0,14)] [(14,5),(19,5),(26,5),(28,5),(31,5),(32,5),(37,5)]
def AXG:=fI 0 0 3 26 []
def AXF:=fI 0 0 0x3cf9f3cf800000000101 82 []
def AXE:=fI 7 4096 0xf9f3e0383 41 []
def AXD:=fI 0 0 0 9 []
def BKW:FI:={ kd:=[.plain,.mapb [.i .i64 2,.i .i64 3,.i .i64 4,.i .i64 5,.i .i64 7,.i .i64 8,.i .i64 9,.i .i64 10,.i .i64 11,.i .i64 12,.i .i64 13,.i .i64 14,.i .i64 15,.i .i64 16,.i .i64 17,.i .i64 18,.i .i64 19,.i .i64 20,.i .i64 21,.i .i64 22,.i .i64 23,.i .i64 24,.i .i64 25,.i .i64 26,.i .i64 27,.i .i64 28,.i .i64 29],.plain,.ent 1 (.i .i64 2),.ent 1 (.i .i64 3),.ent 1 (.i .i64 4),.ent 1 (.i .i64 5),.ent 1 (.i .i64 7),.ent 1 (.i .i64 8),.ent 1 (.i .i64 9),.ent 1 (.i .i64 10),.ent 1 (.i .i64 11),.ent 1 (.i .i64 12),.ent 1 (.i .i64 13),.ent 1 (.i .i64 14),.ent 1 (.i .i64 15),.ent 1 (.i .i64 16),.ent 1 (.i .i64 17),.ent 1 (.i .i64 18),.ent 1 (.i .i64 19),.ent 1 (.i .i64 20),.ent 1 (.i .i64 21),.ent 1 (.i .i64 22),.ent 1 (.i .i64 23),.ent 1 (.i .i64 24),.ent 1 (.i .i64 25),.ent 1 (.i .i64 26),.ent 1 (.i .i64 27),.ent 1 (.i .i64 28),.ent 1 (.i .i64 29)],al:=[],keep:=[],nt:=3,ps:=[(1,1,3),(1,2,4),(1,3,5),(1,4,6),(1,5,7),(1,6,8),(1,7,9),(1,8,10),(1,9,11),(1,10,12),(1,11,13),(1,12,14),(1,13,15),(1,14,16),(1,15,17),(1,16,18),(1,17,19),(1,18,20),(1,19,21),(1,20,22),(1,21,23),(1,22,24),(1,23,25),(1,24,26),(1,25,27),(1,26,28),(1,27,29)],bt:=some (125,5),md:=[] }
def BKV:FI:={ kd:=[.plain,.mapb [.s [111,114],.s [97,110,100],.s [61,61],.s [33,61],.s [60],.s [60,61],.s [62],.s [62,61],.s [43],.s [45],.s [42],.s [47],.s [37]],.plain,.ent 1 (.s [111,114]),.ent 1 (.s [97,110,100]),.ent 1 (.s [61,61]),.ent 1 (.s [33,61]),.ent 1 (.s [60]),.ent 1 (.s [60,61]),.ent 1 (.s [62]),.ent 1 (.s [62,61]),.ent 1 (.s [43]),.ent 1 (.s [45]),.ent 1 (.s [42]),.ent 1 (.s [47]),.ent 1 (.s [37])],al:=[],keep:=[],nt:=3,ps:=[(1,1,3),(1,2,4),(1,3,5),(1,4,6),(1,5,7),(1,6,8),(1,7,9),(1,8,10),(1,9,11),(1,10,12),(1,11,13),(1,12,14),(1,13,15)],bt:=some (125,5),md:=[] }
def AXC:=fI 0 0 897 14 []
def AXB:=fI 3 32 0 15 []
def AXA:=fI 0 0 35 18 []
def AX9:=fI 0 0 0 19 []
def AX8:=fI 0 0 0 12 []
def AX7:=fI 12 0x500200 0 48 [(7,11,1),(8,0,3)]
def AX6:=fI 4 172 14 46 [] [(15,3),(22,3),(27,3),(33,3),(38,3),(44,3)]
def AX5:=fI 10 0x50000 0x38006 32 []
def BKU:=fI 6 1024 0xf3e3fc0705 42 []
def BKT:=fI 4 80 0 22 []
def BKS:=fI 0 0 0 9 []
def BKR:=fI 3 16 0 7 []
def AX4:=fI 0 0 0 25 []
def BKQ:=fI 2 4 0 4 []
def BKP:=fI 2 4 0 4 []
def AX3:=fI 0 0 0 9 []
def BKO:=fI 2 4 0 4 []
def AX2:=fI 0 0 0 5 []
def AX1:=fI 0 0 0 13 []
def AX0:=fI 0 0 0 20 []
def AQZ:=fI 0 0 0 13 []
def BKN:=fI 0 0 0 6 []
def BKM:=fI 7 4112 28674 23 []
def AQY:=fI 0 0 0 17 []
def AQX:=fI 0 0 0 9 []
def AQW:=fI 0 0 0 6 []
def AQV:=fI 0 0 0 26 []
def AQU:=fI 0 0 0 21 []
def AQT:=fI 0 0 776 24 [(5,7,4)]
def AQS:=fI 0 0 0xe000e49 36 [(13,2,1)]
def AQR:=fI 0 0 0 17 []
def AQQ:=fI 0 0 0x1f007 21 []
def AQP:=fI 0 0 0 5 []
def AQO:=fI 0 0 0 9 []
def AQN:=fI 0 0 0 13 []
def AQM:=fI 0 0 0 9 []
def AQL:=fI 0 0 0 6 []
def AQK:=fI 0 0 0x700000000003 56 []
def AQJ:=fI 8 16464 3620 24 []
def AQI:=fI 4 80 0 12 []
def AQH:=fI 4 80 0 15 []
def AQG:=fI 4 80 0 27 []
def AQF:=fI 4 80 0 10 []
def AQE:=fI 4 80 0 7 []
def AQD:=fI 4 80 0 9 []
def AQC:=fI 9 78928 0x38064 36 []
def AQB:=fI 4 80 0 18 []
def AQA:=fI 4 80 0 13 []
def AQ9:=fI 4 80 0 33 []
def AQ8:=fI 4 80 0 16 []
def AQ7:=fI 4 80 0 21 []
def AQ6:=fI 4 80 0 16 []
def AQ5:=fI 4 80 0 10 []
def AQ4:=fI 4 80 0 10 []
def AQ3:=fI 4 80 0 13 []
def AQ2:=fI 4 80 0 12 []
def AQ1:=fI 4 80 0 10 []
def AQ0:=fI 4 80 0 10 []
def AwZ:=fI 4 80 0 12 []
def AwY:=fI 4 80 0 20 []
def AwX:=fI 4 80 0 15 []
def AwW:=fI 26 0xc000000100000 0x1c000181 83 [(22,8,1)]
def AwV:=fI 5 512 0 24 []
def AwU:=fI 0 0 0 14 [(1,5,1),(3,0,2)]
def AwT:=fI 0 0 0 10 []
def AwS:=fI 6 1024 0 23 []
def AwR:=fI 3 32 0 30 []
def AwQ:=fI 9 86048 0 33 []
def AwP:=fI 7 4096 0 37 [(2,13,1)]
def AwO:=fI 5 512 0x7ff0073 34 []
def AwN:=fI 0 0 0 5 []
def BKF:=fI 0 0 387 19 []
def AwM:=fI 0 0 0 13 []
def AwL:=fI 0 0 0 7 []
def AwK:=fI 0 0 0 9 []
def AwJ:=fI 0 0 0 11 []
def AwI:=fI 0 0 0 7 []
def AwH:=fI 0 0 0 9 []
def AwG:=fI 0 0 0x1c00010 36 []
def AwF:=fI 0 0 0 8 [(3,0,5),(3,2,1)]
def AwE:=fI 0 0 0 27 [(5,5,1)]
def AwD:FI:={ kd:=[.plain,.mapb [.s [114,101,99,111,114,100],.s [112,114,111,99],.s [118,97,114],.s [105,102],.s [101,108,115,101],.s [119,104,105,108,101],.s [102,111,114],.s [116,111],.s [114,101,116,117,114,110],.s [97,115,115,101,114,116],.s [97,110,100],.s [111,114],.s [110,111,116],.s [116,114,117,101],.s [102,97,108,115,101],.s [105,110,116],.s [98,111,111,108],.s [108,101,110]],.plain,.ent 1 (.s [114,101,99,111,114,100]),.ent 1 (.s [112,114,111,99]),.ent 1 (.s [118,97,114]),.ent 1 (.s [105,102]),.ent 1 (.s [101,108,115,101]),.ent 1 (.s [119,104,105,108,101]),.ent 1 (.s [102,111,114]),.ent 1 (.s [116,111]),.ent 1 (.s [114,101,116,117,114,110]),.ent 1 (.s [97,115,115,101,114,116]),.ent 1 (.s [97,110,100]),.ent 1 (.s [111,114]),.ent 1 (.s [110,111,116]),.ent 1 (.s [116,114,117,101]),.ent 1 (.s [102,97,108,115,101]),.ent 1 (.s [105,110,116]),.ent 1 (.s [98,111,111,108]),.ent 1 (.s [108,101,110])],al:=[],keep:=[],nt:=3,ps:=[(1,1,3),(1,2,4),(1,3,5),(1,4,6),(1,5,7),(1,6,8),(1,7,9),(1,8,10),(1,9,11),(1,10,12),(1,11,13),(1,12,14),(1,13,15),(1,14,16),(1,15,17),(1,16,18),(1,17,19),(1,18,20)],bt:=some (125,5),md:=[] }
def AwC:=fI 0 0 0 5 []
def AwB:=fI 4 80 1580 23 []
def AwA:=fI 4 80 0 13 []
def Aw9:=fI 2 4 0 6 []
def Aw8:=fI 5 320 0 27 []
def Aw7:=fI 0 0 0 9 []
def Aw6:=fI 4 80 0 10 []
def Aw5:=fI 4 64 0 14 []
def Aw4:=fI 0 0 0 12 []
def Aw3:=fI 0 0 0 11 []
def Aw2:=fI 0 0 0 9 []
def Aw1:=fI 0 0 35 17 []
def Aw0:=fI 10 0x40020 0 51 []
def AvZ:=fI 14 0xa000000 0 52 [] [(38,13),(39,13),(43,13),(50,13)]
def AvY:=fI 3 32 0 28 []
def AvX:=fI 3 32 0 57 []
def AvW:=fI 3 32 0xe00003d 41 []
def AvV:=fI 4 64 0 22 [(2,8,3)]
def AvU:=fI 0 0 387 19 []
def AvT:=fI 0 0 387 19 []
def AvS:=fI 0 0 455 63 []
def AvR:=fI 0 0 0 12 []
def AvQ:=fI 3 32 0 14 []
def AvP:=fI 8 16416 0 27 []
def AvO:=fI 3 32 0 14 []
def AvN:=fI 0 0 0 10 []
def AvM:=fI 7 5152 0x39c03ff800000000000000185 103 []
def AvL:=fI 0 0 0x3ffc0030f 53 []
def AvK:=fI 0 0 0x1c007001c0000000000000000000000000000000000000007eec1f 220 []
def AvJ:=fI 0 0 0 13 []
def AvI:=fI 8 20512 0 33 []
def AvH:=fI 8 37920 0 41 []
def AvG:=fI 3 32 0 8 []
def AvF:=fI 9 86048 0 37 []
def AvE:=fI 7 8224 0 37 []
def AvD:=fI 9 81952 0 43 []
def AvC:=fI 0 0 0 6 []
def AvB:=fI 0 0 3093 58 []
def AvA:=fI 12 0x482000 967 35 []
def Av9:=fI 3 32 0 8 []
def Av8:=fI 0 0 0 14 []
def Av7:=fI 6 1024 0 18 []
def Av6:=fI 0 0 0 17 []
def Av5:=fI 7 5152 0 42 []
def Av4:=fI 0 0 1039 38 []
def Av3:=fI 9 70688 0 42 []
def Av2:=fI 3 32 0 18 []
def Av1:=fI 3 32 0 8 []
def Av0:=fI 3 32 0 8 []
def AkZ:=fI 6 1056 0 23 []
def AkY:=fI 12 0x500020 0 101 []
end Go.Abs.Z

namespace Go.Abs.Z
open Go.Proofs
def Aj3(f:FuncId)(af:Ay):Prop:=∃fn fi,Tryz.prog.funcs[f]?=some fn/\(fn.name == "runtime.NumGoroutine")=false/\Md Tryz.prog pur fi fn=some af/\GZ (af.ntmps+af.extra) af.code=true
end Go.Abs.Z

namespace Go.Abs.Z
noncomputable section
open Go.Proofs
def cA(f:FuncId)(fi:FI):Ay:=match Tryz.prog.funcs[f]? with
 |some b=>match Md Tryz.prog pur fi b with
  |some c=>c
  |none=>⟨0,0,0,[],.skip⟩
 |none=>⟨0,0,0,[],.skip⟩
def chk(f:FuncId)(fi:FI):Bool:=match Tryz.prog.funcs[f]? with
 |some c=>!(c.name == "runtime.NumGoroutine")&&(match Md Tryz.prog pur fi c with
  |some b=>GZ (b.ntmps+b.extra) b.code
  |none=>false)
 |none=>false
def Bq9{f:FuncId}{fi:FI}(h:chk f fi=true):Aj3 f (cA f fi):=by
 unfold chk at h;unfold cA
 split at h
 ·rename_i e d;rw[Aj] at h;obtain⟨b,a⟩:=h
  split at a
  ·rename_i g c;exact⟨e,fi,d,by simpa using b,c,a⟩
  ·cases a
 ·cases h
def a231:Ay:=cA 231 AwV
def a202:Ay:=cA 202 AQO
def a268:Ay:=cA 268 Aw5
def a234:Ay:=cA 234 AwS
def a204:Ay:=cA 204 AQM
def a199:Ay:=cA 199 AQR
def U2:Ay:=cA 144 AXG
def BW0:Ay:=cA 247 AwH
def MO:Ay:=cA 280 AvT
def a145:Ay:=cA 145 AXF
def a90:Ay:=cA 90 BJ6
def a269:Ay:=cA 269 Aw4
def a37:Ay:=cA 37 BK9
def a152:Ay:=cA 152 AXA
def a203:Ay:=cA 203 AQN
def a285:Ay:=cA 285 AvR
def a81:Ay:=cA 81 BJF
def kL:Ay:=cA 200 AQQ
def a206:Ay:=cA 206 AQK
def a193:Ay:=cA 193 AQX
def qi:Ay:=cA 197 AQT
def a258:Ay:=cA 258 AwF
def a233:Ay:=cA 233 AwT
def a141:Ay:=cA 141 AXJ
def a278:Ay:=cA 278 AvV
def a38:Ay:=cA 38 BK8
def a205:Ay:=cA 205 AQL
def a260:Ay:=cA 260 AwD
def a192:Ay:=cA 192 AQY
def a111:Ay:=cA 111 AXW
def a157:Ay:=cA 157 AX5
def a274:Ay:=cA 274 AvZ
def OX:Ay:=cA 136 AXO
def a195:Ay:=cA 195 AQV
def a85:Ay:=cA 85 BJB
def JY:Ay:=cA 137 AXN
def kJ:Ay:=cA 308 AvA
def a53:Ay:=cA 53 BJT
def MC:Ay:=cA 120 AXS
def a270:Ay:=cA 270 Aw3
def a103:Ay:=cA 103 AZ4
def a89:Ay:=cA 89 BJ7
def a201:Ay:=cA 201 AQP
def a42:Ay:=cA 42 BK4
def a43:Ay:=cA 43 BK3
def a153:Ay:=cA 153 AX9
def a147:Ay:=cA 147 AXD
def a194:Ay:=cA 194 AQW
def a271:Ay:=cA 271 Aw2
def a319:Ay:=cA 319 AkZ
def a320:Ay:=cA 320 AkY
def a163:Ay:=cA 163 AX4
def a242:Ay:=cA 242 AwM
def a94:Ay:=cA 94 BJ2
def a100:Ay:=cA 100 AZ7
def a318:Ay:=cA 318 Av0
def a168:Ay:=cA 168 AX2
def RP:Ay:=cA 248 AwG
def a63:Ay:=cA 63 BJN
def a72:Ay:=cA 72 BJL
def a143:Ay:=cA 143 AXH
def a276:Ay:=cA 276 AvX
def a288:Ay:=cA 288 AvO
def a289:Ay:=cA 289 AvN
def a296:Ay:=cA 296 AvJ
def a299:Ay:=cA 299 AvG
def a309:Ay:=cA 309 Av9
def a311:Ay:=cA 311 Av7
def a313:Ay:=cA 313 Av5
def a315:Ay:=cA 315 Av3
def a316:Ay:=cA 316 Av2
def a317:Ay:=cA 317 Av1
def a82:Ay:=cA 82 BJE
def a83:Ay:=cA 83 BJD
def a99:Ay:=cA 99 BZX
def kN:Ay:=cA 102 AZ5
def a49:Ay:=cA 49 BJX
def a51:Ay:=cA 51 BJV
def a80:Ay:=cA 80 BJG
def a101:Ay:=cA 101 AZ6
def a117:Ay:=cA 117 AXU
def a243:Ay:=cA 243 AwL
def a244:Ay:=cA 244 AwK
def aX:Ay:=cA 279 AvU
def a106:Ay:=cA 106 AZ1
def a108:Ay:=cA 108 AXZ
def a151:Ay:=cA 151 AXB
def a246:Ay:=cA 246 AwI
def a95:Ay:=cA 95 BJ1
def a119:Ay:=cA 119 AXT
def a146:Ay:=cA 146 AXE
def a212:Ay:=cA 212 AQE
def a265:Ay:=cA 265 Aw8
def a56:Ay:=cA 56 BJR
def a110:Ay:=cA 110 AXX
def a131:Ay:=cA 131 AXQ
def a155:Ay:=cA 155 AX7
def a156:Ay:=cA 156 AX6
def N8:Ay:=cA 230 AwW
def a232:Ay:=cA 232 AwU
def a236:Ay:=cA 236 AwQ
def a266:Ay:=cA 266 Aw7
def p9:Ay:=cA 272 Aw1
def a275:Ay:=cA 275 AvY
def kK:Ay:=cA 277 AvW
def KZ:Ay:=cA 284 AvS
def a287:Ay:=cA 287 AvP
def RO:Ay:=cA 290 AvM
def Qa:Ay:=cA 294 AvL
def a302:Ay:=cA 302 AvD
def a18:Ay:=cA 18 BKL
def a36:Ay:=cA 36 BKA
def a44:Ay:=cA 44 BK2
def a45:Ay:=cA 45 BK1
def a58:Ay:=cA 58 BJQ
def a59:Ay:=cA 59 BJP
def a93:Ay:=cA 93 BJ3
def a96:Ay:=cA 96 BJ0
def a116:Ay:=cA 116 AXV
def a170:Ay:=cA 170 AX0
def a171:Ay:=cA 171 AQZ
def a245:Ay:=cA 245 AwJ
def a34:Ay:=cA 34 BKB
def a74:Ay:=cA 74 BJK
def a75:Ay:=cA 75 BJJ
def a79:Ay:=cA 79 BJH
def a98:Ay:=cA 98 BZY
def U3:Ay:=cA 135 AXP
def kM:Ay:=cA 150 AXC
def a261:Ay:=cA 261 AwC
def a12:Ay:=cA 12 BKZ
def a20:Ay:=cA 20 BKJ
def a22:Ay:=cA 22 BKH
def a33:Ay:=cA 33 BKC
def a46:Ay:=cA 46 BK0
def a47:Ay:=cA 47 BJZ
def a48:Ay:=cA 48 BJY
def a50:Ay:=cA 50 BJW
def a52:Ay:=cA 52 BJU
def a55:Ay:=cA 55 BJS
def a76:Ay:=cA 76 BJI
def a87:Ay:=cA 87 BJ9
def a91:Ay:=cA 91 BJ5
def a92:Ay:=cA 92 BJ4
def a97:Ay:=cA 97 BZZ
def a140:Ay:=cA 140 AXK
def a142:Ay:=cA 142 AXI
def a198:Ay:=cA 198 AQS
def a229:Ay:=cA 229 AwX
def a259:Ay:=cA 259 AwE
def a6:Ay:=cA 6 fi6
def a7:Ay:=cA 7 fi7
def a9:Ay:=cA 9 fi9
def a11:Ay:=cA 11 BV3
def a19:Ay:=cA 19 BKK
def a21:Ay:=cA 21 BKI
def a23:Ay:=cA 23 BKG
def a31:Ay:=cA 31 BKE
def a32:Ay:=cA 32 BKD
def a40:Ay:=cA 40 BK6
def a61:Ay:=cA 61 BJO
def a71:Ay:=cA 71 BJM
def a86:Ay:=cA 86 BJA
def a88:Ay:=cA 88 BJ8
def a130:Ay:=cA 130 AXR
def a138:Ay:=cA 138 AXM
def a216:Ay:=cA 216 AQA
def a4:Ay:=cA 4 fi4
def a5:Ay:=cA 5 fi5
def a13:Ay:=cA 13 BKY
def a14:Ay:=cA 14 BKX
def a39:Ay:=cA 39 BK7
def a41:Ay:=cA 41 BK5
def a84:Ay:=cA 84 BJC
def a104:Ay:=cA 104 AZ3
def a105:Ay:=cA 105 AZ2
def a107:Ay:=cA 107 AZ0
def a109:Ay:=cA 109 AXY
def a139:Ay:=cA 139 AXL
def a154:Ay:=cA 154 AX8
def a166:Ay:=cA 166 AX3
def a169:Ay:=cA 169 AX1
def a196:Ay:=cA 196 AQU
def qh:Ay:=cA 207 AQJ
def a208:Ay:=cA 208 AQI
def a209:Ay:=cA 209 AQH
def a210:Ay:=cA 210 AQG
def a211:Ay:=cA 211 AQF
def a213:Ay:=cA 213 AQD
def qg:Ay:=cA 214 AQC
def a215:Ay:=cA 215 AQB
def a217:Ay:=cA 217 AQ9
def a218:Ay:=cA 218 AQ8
def a219:Ay:=cA 219 AQ7
def a220:Ay:=cA 220 AQ6
def a221:Ay:=cA 221 AQ5
def a222:Ay:=cA 222 AQ4
def a223:Ay:=cA 223 AQ3
def a224:Ay:=cA 224 AQ2
def a225:Ay:=cA 225 AQ1
def a226:Ay:=cA 226 AQ0
def a227:Ay:=cA 227 AwZ
def a228:Ay:=cA 228 AwY
def a235:Ay:=cA 235 AwR
def a237:Ay:=cA 237 AwP
def Wp:Ay:=cA 238 AwO
def a239:Ay:=cA 239 AwN
def qf:Ay:=cA 262 AwB
def a263:Ay:=cA 263 AwA
def a264:Ay:=cA 264 Aw9
def a267:Ay:=cA 267 Aw6
def a273:Ay:=cA 273 Aw0
def a286:Ay:=cA 286 AvQ
def GJ:Ay:=cA 295 AvK
def a297:Ay:=cA 297 AvI
def a298:Ay:=cA 298 AvH
def a300:Ay:=cA 300 AvF
def a301:Ay:=cA 301 AvE
def a303:Ay:=cA 303 AvC
def iB:Ay:=cA 307 AvB
def a310:Ay:=cA 310 Av8
def a312:Ay:=cA 312 Av6
def p8:Ay:=cA 314 Av4
end
end Go.Abs.Z
