/- A part of the proof: D16 D17 D18 D26 Y1 Y2 G11 Y5 HN WT WU VA VB VC VD. -/
import Derived.Test.YtgkkkgbknfhbaaaGreatDoorKbb
import Derived.Test.YtgkkkgbknfhbaaaGreatDoorKaz
import Derived.Test.YtgkkkgbknfhbaaaGreatDoorKba
import Derived.Test.YtgkkkgbknfhbaaaGreatDoorKay
import Derived.Test.YtgkkkgbknfhbaaaGreatDoorKav
import Derived.KernelRfl

set_option linter.all false
namespace Go.Abs.Z
open Go.Proofs Go.RowKit
section
variable{H T:Sto}{g n:Nat}
structure Kq(l r:List Dg):Prop where
 perm:r.Perm l
 keep:∀k,fk k r=fk k l
def Sd.kp{l r:List Dg}(h:Sd l r):Kq l r:=⟨h.perm,h.keep⟩
def Kq.refl(l:List Dg):Kq l l:=⟨.refl _,λ_=>rfl⟩
def Kq.trans{l m r:List Dg}(h:Kq l m)(a:Kq m r):Kq l r:=⟨a.perm.trans h.perm,λk=>(a.keep k).trans (h.keep k)⟩
def Kq.mid{P L R Q:List Dg}(h:Kq L R):Kq (P++L++Q) (P++R++Q):=⟨vE h.perm,xh h.keep⟩
def Kq.len{l r:List Dg}(h:Kq l r):r.length=l.length:=h.perm.length_eq
def Kq.bd{l r:List Dg}(h:Kq l r)(a:Bd l):Bd r:=λd b=>a d (h.perm.mem_iff.1 b)
def AK7{l:List Dg}{x y:Nat}(h:l.length<=x):seg l x y=[]:=by unfold seg;rw[Co h,List.take_nil]
def RY{l:List Dg}{x y:Nat}(h:l.length<=x+y):seg l x y=l.drop x:=by unfold seg;exact Cn (by rw[Aw];omega)
def AqI{P R Q:List Dg}{x y:Nat}(a:x=P.length)(b:y=R.length):seg (P++R++Q) x y=R:=by
 subst a b;unfold seg;rw[AC,List.drop_left,List.take_left]
def AzR:Asc []:=List.Pairwise.nil
def Bl(w a:Nat)(l:List Dg):Prop:=∀q,q * w+w<=a->Asc (seg l (q * w) w)
def Ab(w a:Nat)(l:List Dg):Prop:=∀q,a<=q * w->Asc (seg l (q * w) w)
def Bl.step{w a b:Nat}{P L R Q:List Dg}(h:Bl w a (P++L++Q))(k:a=P.length)(o:a=b * w)(l:L.length=w)(e:Asc R)(i:R.length=L.length):Bl w (a+w) (P++R++Q):=by
 intro q d;by_cases c:q * w+w<=a
 ·have:=h q c;rw[O4 am] at this ⊢;exact this
 ·have:q=b:=by
   by_cases f:w=0
   ·subst f;simp at c
   ·have j:q<=b:=by
     have:q * w<=b * w:=am
     exact Nat.le_of_mul_le_mul_right this am
    have m:b<q+1:=by
     have:b * w<(q+1) * w:=by rw[BU];omega
     exact Fg this
    omega
  subst this;rw[AqI am am];exact e
def Ab.step{w a b:Nat}{P L R Q:List Dg}(h:Ab w a (P++L++Q))(e:a=P.length)(d:b=a+L.length)(c:R.length=L.length):Ab w b (P++R++Q):=by
 intro q f;have:=h q am
 rw[nS (R:=R) (R':=L) c am];exact this
def Rq(t:n<1000000000)(f:List Dg)(v:Bd f)(D:f.length=n):∀(z i:Nat) (Ds:List Dg) {a b:Nat},n - a<=z->a=i * 20->b=a+20->a<=n->Kq f Ds->Bl 20 a Ds->
  ∃h q a' o,LL KZ 0 [(0,some (.arr H.length g 0 n 5)),(1,some (N n)),(2,some fnc),(6,some (I 20)),(7,some (N a)),(8,some (N b))] (aS H T g Ds) (.exit 0) [(0,some (.arr H.length g 0 n 5)),(1,some (N n)),(2,some fnc),(6,some (I 20)),(7,some (N a')),(8,some (N o))] (aS H T g h)/\a'=q * 20/\a'<=n/\n<a'+20/\Kq f h/\Bl 20 a' h
 |z,i,Ds,a,b,F,u,y,m,k,r=>by
  by_cases c:b<=n
  ·have s:=k.len;obtain⟨P,Q,e,E,B⟩:=uo Ds (x:=a) (y:=20) am
   generalize seg Ds a 20=L at e B;subst e;obtain⟨R,w,l⟩:=BVF (H:=H) (T:=T) (g:=g) t (P:=P) (L:=L) (Q:=Q) (a:=a) (b:=b) am am ((k.bd v).mono λd C=>by simp[C]) am
   match z with
   |0=>omega
   |z+1=>
    have p:Bl 20 (a+20) (P++R++Q):=r.step am u am l.asc l.len
    obtain⟨h,q,a',o,A,x⟩:=Rq t f v D z (i+1) (P++R++Q) (a:=b) (b:=b+20) am am rfl am (k.trans l.kp.mid) (by rw[y];exact p)
    exact⟨h,q,a',o,V6 am w am A,x⟩
  ·exact⟨Ds,i,a,b,Zm am,u,m,am,k,r⟩
def merges(I:n<1000000000)(f:List Dg)(v:Bd f)(S:f.length=n){w:Nat}(M:0<w)(s:w<n):∀(z i:Nat) (Ds:List Dg) {a b:Nat},n - a<=z->a=i * (2 * w)->b=a+2 * w->a<=n->Kq f Ds->Bl (2 * w) a Ds->Ab w a Ds->
  ∃d p a' q,LL KZ 2 [(0,some (.arr H.length g 0 n 5)),(1,some (N n)),(2,some fnc),(6,some (N w)),(7,some (N a)),(8,some (N b))] (aS H T g Ds) (.exit 4) [(0,some (.arr H.length g 0 n 5)),(1,some (N n)),(2,some fnc),(6,some (N w)),(7,some (N a')),(8,some (N q))] (aS H T g d)/\a'=p * (2 * w)/\a'<=n/\n<a'+2 * w/\Kq f d/\Bl (2 * w) a' d/\Ab w a' d
 |z,i,Ds,a,b,V,t,K,r,l,F,j=>by
  by_cases c:b<=n
  ·have C:=l.len;have D:a=(2 * i) * w:=by rw[t,<-Nat.mul_assoc,Eh i 2]
   obtain⟨P,Q,e,W,L⟩:=uo Ds (x:=a) (y:=w+w) am
   rw[AqJ] at e L;have G:=j (2 * i) am
   have J:=j (2 * i+1) (by rw[BU];omega)
   rw[<-D] at G;rw[BU,<-D] at J;have y:(seg Ds a w).length=w:=by unfold seg;rw[AA,Aw];omega
   have E:(seg Ds (a+w) w).length=w:=by unfold seg;rw[AA,Aw];omega
   generalize seg Ds a w=A at *;generalize seg Ds (a+w) w=B at *;subst e;obtain⟨R,U,m⟩:=AzN (H:=H) (T:=T) (g:=g) I _ P A B Q (a:=a) (m:=a+w) (b:=b) (Ai _) (λh=>by rw[h] at y;simp at y;omega) (λh=>by rw[h] at E;simp at E;omega) am am am G J (by rw[show P++A++B++Q=P++(A++B)++Q by simp];exact l.bd v) (by rw[show P++A++B++Q=P++(A++B)++Q by simp];omega)
   match z with
   |0=>omega
   |z+1=>
    have u:Bl (2 * w) (a+2 * w) (P++R++Q):=F.step am t am m.asc m.len
    have o:Ab w b (P++R++Q):=j.step am am m.len
    obtain⟨d,p,a',q,O,x⟩:=merges I f v S M s z (i+1) (P++R++Q) (a:=b) (b:=b+2 * w) am (by rw[BU];omega) rfl am (l.trans m.kp.mid) (by rw[K];exact u) o
    exact⟨d,p,a',q,V3 am am am (by rw[show P++(A++B)++Q=P++A++B++Q by simp];exact U) am am am O,x⟩
  ·exact⟨Ds,i,a,b,Zk am,t,r,am,l,F,j⟩
def Bl.up{w a i:Nat}{l:List Dg}(h:Bl w a l)(e:a=i * w)(f:l.length<a+w)(b:Asc (l.drop a)):Ab w 0 l:=by
 intro q _;by_cases c:q * w+w<=a
 ·exact h q c
 ·by_cases d:l.length<=q * w
  ·rw[AK7 d];exact AzR
  ·have:q=i:=by
    have k:q<i+1:=by
     have:q * w<(i+1) * w:=by rw[BU];omega
     exact Fg this
    have j:i<q+1:=by
     have:i * w<(q+1) * w:=by rw[BU];omega
     exact Fg this
    omega
   subst this;rw[<-e,RY am];exact b
def grow(v:n<1000000000)(d:List Dg)(t:Bd d)(D:d.length=n):∀(z:Nat) (Ds:List Dg) {w m2 m3:Nat},n - w<=z->0<w->Kq d Ds->Ab w 0 Ds->
  ∃j Q x G,LL KZ 1 [(0,some (.arr H.length g 0 n 5)),(1,some (N n)),(2,some fnc),(6,some (N w)),(7,some (N m2)),(8,some (N m3))] (aS H T g Ds) (.exit 2) [(0,some (.arr H.length g 0 n 5)),(1,some (N n)),(2,some fnc),(6,some (N Q)),(7,some (N x)),(8,some (N G))] (aS H T g j)/\Sd d j
 |z,Ds,w,m2,m3,hz,hw,s,p=>by
  have V:=s.len;by_cases c:w<n
  ·obtain⟨Ds1,i,a,b,W,y,han,Z,k,o,l⟩:=merges (H:=H) (T:=T) (g:=g) v d t D hw c n 0 Ds (a:=0) (b:=2 * w) am am am am s (λq X=>am) p
   have E:=k.len
   match z with
   |0=>omega
   |z+1=>
    have S:a=(2 * i) * w:=by rw[y,<-Nat.mul_assoc,Eh i 2]
    have u:=l (2 * i) am
    have O:=l (2 * i+1) (by rw[BU];omega)
    rw[<-S] at u;rw[BU,<-S] at O;by_cases c2:a+w<n
    ·rw[RY am] at O
     have e:Ds1=Ds1.take a++seg Ds1 a w++Ds1.drop (a+w)++[]:=by
      unfold seg;rw[Az,AC];have:(Ds1.drop a).take w++Ds1.drop (a+w)=Ds1.drop a:=by rw[<-BZ,BH]
      rw[this,BH]
     have lP:(Ds1.take a).length=a:=by rw[AA];omega
     have U:(seg Ds1 a w).length=w:=by unfold seg;rw[AA,Aw];omega
     have Y:(Ds1.drop (a+w)).length=n - (a+w):=by rw[Aw];omega
     generalize Ds1.take a=P at *;generalize seg Ds1 a w=A at *;generalize Ds1.drop (a+w)=B at *;subst e;obtain⟨R,hE,C⟩:=AzN (H:=H) (T:=T) (g:=g) v _ P A B [] (a:=a) (m:=a+w) (b:=n) (Ai _) (λh=>by rw[h] at U;simp at U;omega) (λh=>by rw[h] at Y;simp at Y;omega) am am am u O (k.bd t) am
     have lR:=C.len;simp only[Ae] at lR;have K:Kq d (P++R++[]):=k.trans (by have:=C.kp.mid (P:=P) (Q:=[]);simpa using this)
     have F:Bl (2 * w) a (P++R++[]):=λq X=>by
      have:=o q X;rw[show P++A++B++[]=P++(A++B)++[] by simp,O4 am] at this
      rw[O4 am];exact this
     have I:Ab (2 * w) 0 (P++R++[]):=F.up y (by simp;omega) (by rw[Az,<-lP,List.drop_left];exact C.asc)
     obtain⟨j,J,M,L,m,f⟩:=grow v d t D z (P++R++[]) (w:=w * 2) (m2:=a) (m3:=b) am am K (by rw[Eh];exact I)
     exact⟨j,J,M,L,V5 am am W am am am hE am m,f⟩
    ·have I:Ab (2 * w) 0 Ds1:=o.up y am (by rw[RY am] at u;exact u)
     obtain⟨j,J,M,L,m,f⟩:=grow v d t D z Ds1 (w:=w * 2) (m2:=a) (m3:=b) am am k (by rw[Eh];exact I)
     exact⟨j,J,M,L,V4 am am W am am am am m,f⟩
  ·refine⟨Ds,w,m2,m3,Zl am,?_,s.perm,s.keep⟩
   have:=p 0 am
   rw[Nat.zero_mul,RY am] at this;exact this
def e99{Ds:List Dg}(m:Ds.length<1000000000)(k:Bd Ds):∃R,E 266 [.arr H.length g 0 Ds.length 5,fnc] (aS H T g Ds) (.tuple []) (aS H T g R)/\Sd Ds R:=by
 obtain⟨Ds1,i,a,b,u,x,t,y,j,s⟩:=Rq (H:=H) (T:=T) (g:=g) m Ds k rfl Ds.length 0 Ds (a:=0) (b:=20) am am am am (Kq.refl _) (λq p=>am)
 have r:=j.len;have e:Ds1=Ds1.take a++Ds1.drop a++[]:=by simp
 have A:(Ds1.take a).length=a:=by rw[AA];omega
 have B:(Ds1.drop a).length=Ds.length - a:=by rw[Aw];omega
 generalize Ds1.take a=P at *;generalize Ds1.drop a=L at *;subst e;obtain⟨R,w,h⟩:=BVF (H:=H) (T:=T) (g:=g) (n:=Ds.length) m (P:=P) (L:=L) (Q:=[]) (a:=a) (b:=Ds.length) am am ((j.bd k).mono λd z=>by simp[z]) am
 have D:=h.len
 have l:Bl 20 a (P++R++[]):=λq p=>by
  have:=s q p;rw[O4 am] at this ⊢;exact this
 have v:Ab 20 0 (P++R++[]):=l.up x (by simp;omega) (by rw[Az,<-A,List.drop_left];exact h.asc)
 obtain⟨o,F,C,G,c,f⟩:=grow (H:=H) (T:=T) (g:=g) m Ds k rfl Ds.length (P++R++[]) (w:=20) (m2:=a) (m3:=b) am am (j.trans h.kp.mid) v
 exact⟨o,r99 (r136 u w c),f⟩
end
def ML(w:List UInt8):Bool:=decide (w≠[])&&(decide (w.length<=9)&&decide (w.length<=Dc diB w))
def I8(s:List UInt8)(t:Tk):Nat:=if t.k=4 then 1 else if t.k=2 then(if ML (wd s t) then 0 else 2) else if t.k=0/\16<(wd s t).length then 3 else 0
def Ip(s:List UInt8):List Tk->List Dg
 |[]=>[]
 |t::l=>if I8 s t=0 then Ip s l else⟨I8 s t,t.a,t.e,[]⟩::Ip s l
def Py(s:List UInt8):∀l b:List Tk,Ip s (l++b)=Ip s l++Ip s b
 |[],_=>rfl
 |t::l,b=>by
  rw[Bg,Ip,Ip];split
  ·exact Py s l b
  ·rw[Py s l b];rfl
def Ni(s:List UInt8):∀l:List Tk,(Ip s l).length<=l.length
 |[]=>Ai _
 |t::l=>by
  have:=Ni s l;rw[Ip];split<;>simp<;>omega
def n98(w:List UInt8)(c:w.length<=9):∀(n j:Nat) (z:Int),j+n=w.length->∃a,LL RP 0 [(4,some (I z)),(22,some (slF 1 (w.map by8))),(23,some (N w.length)),(24,some (N j))] [] (.exit 0) [(4,some (I a)),(22,some (slF 1 (w.map by8)))] []
 |0,j,z,h=>⟨z,dm am⟩
 |n+1,j,z,h=>by
  obtain⟨a,b⟩:=n98 w c n (j+1) _ am
  exact⟨a,Yg am (Af am) rfl rfl rfl rfl am b⟩
def e98(w:List UInt8)(c:w.length<1000000):∃z,E 248 [.str w] [] (.tuple [I z,.bool (ML w)]) []:=by
 by_cases a:w=[]
 ·exact⟨0,by subst a;exact Bk1 rfl⟩
 ·by_cases f:9<w.length
  ·have:ML w=false:=by simp[ML];omega
   rw[this];exact⟨0,Bk0 a am⟩
  ·have b:=pE diB rfl j4 w c 0 am
   rw[DZ,BB] at b;by_cases e:Dc diB w<w.length
   ·have:ML w=false:=by simp[ML];omega
    rw[this];exact⟨0,BjZ a am b am⟩
   ·have:ML w=true:=by simp[ML];exact⟨a,am,am⟩
    rw[this];obtain⟨z,d⟩:=n98 w am w.length 0 0 am
    exact⟨z,BjY a am b am d⟩
def lxH(D:List Dg):PV:=match D with | []=>.nils | _::D=>.arr 1 D.length 0 (D.length+1) 5
def lxS(D:List Dg):Sto:=match D with | []=>[] | d::D=>[[.arrv D.length 5 ((d::D).map Dg.pv)]]
def Ij(D:List Dg):Hv (lxH D):=by cases D<;>first | exact .nil | exact .arr ..
def wK{X:List PV}(D:List Dg)(d:Dg)(h:D.length<100000):Bt pur run (.w (.Gj 5)) [lxH D,.slice true 5 [d.pv]] (X::lxS D) [some (lxH (D++[d]))] (X::lxS (D++[d])):=by
 cases D with
 |nil=>exact UV (T:=[]) rfl
 |cons e D=>
  have c:=UW (X:=X) (B:=[]) (g:=D.length) (n:=D.length+1) (Ds:=(e::D).map Dg.pv) (o:=true) (d:=d.pv) rfl (by simp) (by simp[Bo] at h ⊢;omega)
  have b:lxH (e::D++[d])=.arr 1 (D.length+1) 0 (D.length+1+1) 5:=by
   show PV.arr 1 (D++[d]).length 0 ((D++[d]).length+1) 5=_;simp
  have a:lxS (e::D++[d])=[[.arrv (D.length+1) 5 ((e::D).map Dg.pv++[d.pv])]]:=by
   show[[PV.arrv (D++[d]).length 5 ((e::(D++[d])).map Dg.pv)]]=_;simp
  rw[b,a];exact c
def BjH(s:List UInt8)(y:s.length<=4096)(b:List Tk)(C:b.length<=5000):∀(c a:List Tk),b=a++c->(∀t∈c,t.a<=t.e/\t.e<=s.length) -> 
  LL N8 0 [(0,some (.str s)),(7,some (.ref 0 0)),(8,some (lxH (Ip s a))),(26,some (slF 4 (b.map Tk.pv))),(27,some (N b.length)),(28,some (N a.length))] (q0 s (BI 4 ((good a).map Tk.pv))::lxS (Ip s a)) (.exit 0)
   [(0,some (.str s)),(7,some (.ref 0 0)),(8,some (lxH (Ip s b))),(26,some (slF 4 (b.map Tk.pv)))] (q0 s (BI 4 ((good b).map Tk.pv))::lxS (Ip s b))
 |[],a,e,_=>by
  rw[Az] at e;subst e;exact dK (Ij _) am
 |t::c,a,e,o=>by
  have q:b.length=a.length+(c.length+1):=by rw[e];simp
  have d:=BjH s y b C c (a++[t]) (by rw[e];simp) (λu B=>o u (by simp[B]))
  have i:b[a.length]?=some t:=by rw[e];simp
  obtain⟨v,A⟩:=o t (by simp)
  have g:AQ (.ssl true true) [.str s,N t.a,N t.e]=some [some (.str (wd s t))]:=K8 s t.a t.e v A;have F:(wd s t).length<=s.length:=by simp only[wd,AA,Aw];omega
  rw[Ae,DX] at d;have D:(Ip s a).length<=a.length:=Ni s a
  have x:Ip s (a++[t])=if I8 s t=0 then Ip s a else Ip s a++[⟨I8 s t,t.a,t.e,[]⟩]:=by
   rw[Py];simp only[Ip];split<;>simp
  have w:good (a++[t])=if t.k=4 then good a else good a++[t]:=by
   unfold good;rw[E9];by_cases h:t.k=4
   ·simp[h]
   ·simp[h]
  have E:(good a).length<=a.length:=Ew _ _;have j:((good a).map Tk.pv).length+1<=Bo:=by rw[Ap];unfold Bo;omega
  rw[x,w] at d;by_cases m:t.k=4
  ·have f:I8 s t=1:=by simp[I8,m]
   rw[f,if_neg (by decide),if_pos m] at d
   exact Yy (Ij _) am i g am (Ij _) (wK _ ⟨1,t.a,t.e,[]⟩ am) am d
  ·rw[if_neg m,BV,List.map_singleton] at d;by_cases c2:t.k=2
   ·obtain⟨z,l⟩:=e98 (wd s t) am
    cases k:ML (wd s t) with
    |true=>
     have f:I8 s t=0:=by simp[I8,c2,k]
     rw[f,if_pos rfl] at d;rw[k] at l;exact Yx (Ij _) am i g am am l j am d
    |false=>
     have f:I8 s t=2:=by simp[I8,c2,k]
     rw[f,if_neg (by decide)] at d
     rw[k] at l;exact Yw (Ij _) am i g am am l (Ij _) (wK _ ⟨2,t.a,t.e,[]⟩ am) j am d
   ·by_cases n:t.k=0
    ·by_cases r:16<(wd s t).length
     ·have f:I8 s t=3:=by simp[I8,n,r]
      rw[f,if_neg (by decide)] at d
      exact Yu (Ij _) am i g am am am am (Ij _) (wK _ ⟨3,t.a,t.e,[]⟩ am) j am d
     ·have f:I8 s t=0:=by simp[I8,n,r]
      rw[f,if_pos rfl] at d;exact Yt (Ij _) am i g am am am am j am d
    ·have f:I8 s t=0:=by simp[I8,n,c2,m]
     rw[f,if_pos rfl] at d;exact Yv (Ij _) am i g am am am j am d
def Gn(s:List UInt8):List Dg:=Ip s (Gl s)
def e46(s:List UInt8)(b:s.length<=4096):E 230 [.str s] [] (.tuple [.ref 0 0,lxH (Gn s),I 0]) (PS4 s (BL s) (lxS (Gn s)) 0 []):=by
 have j:(Gl s).length<=s.length+1:=IR (s.length+1) s 0;have d:=(LQ s (s.length+1) 0 am am).wf
 have h:=BjH s b (Gl s) am (Gl s) [] rfl (λt a=>⟨(d t a).1.ord.1,(d t a).1.ord.2.1⟩)
 have c:=(J7 s).len
 have e:q0 s (BI 4 ((BL s).map Tk.pv))=pc s (BL s) 0 0 .nils (-1):=by
  cases f:BL s with
  |nil=>rw[f] at c;cases c
  |cons t ts=>rfl
 have g:=Bw4 (e97 s b) rfl (Ij _) h
 have i:PS4 s (BL s) (lxS (Gn s)) 0 []=pc s (BL s) 0 0 .nils (-1)::lxS (Gn s):=by
  show pc s (BL s) 0 0 .nils (-1)::(lxS (Gn s)++[])=_;rw[Az]
 rw[i,<-e];exact g
def dgA(ls:List Tk)(d:AD):Dg:=⟨d.c,tA ls d.i,tE ls d.i,d.t⟩
def dgs(ls:List Tk)(D:List AD):List Dg:=D.map (dgA ls)
def xY(ls:List Tk)(D:List AD):(dgs ls D).map Dg.pv=D.map (dgp ls):=by simp[dgs,dgp,dgA,Function.comp_def]
def Tn(Ds:List Dg):(Ds.map Dg.pv).map PV.Ag=Ds.map Dg.pv/\(Ds.map Dg.pv).all PV.ones=true/\(Ds.map Dg.pv).all PV.okc=true/\(Ds.map Dg.pv).all (λe=>e.flat&&e.cells.all PV.flat)=true:=by
 induction Ds with
 |nil=>exact⟨rfl,rfl,rfl,rfl⟩
 |cons d Ds f=>
  obtain⟨a,b,c,e⟩:=f;refine⟨?_,?_,?_,?_⟩
  ·rw[Bu,Bu,a];rfl
  ·rw[Bu,Dv,b];rfl
  ·rw[Bu,Dv,c];rfl
  ·rw[Bu,Dv,e];rfl
def O9{H T:Sto}{g:Nat}{Ds:List Dg}:JM (aS H T g Ds) H.length g 0 Ds.length 5=some (Ds.map Dg.pv):=by
 have:(Ds.map Dg.pv).take Ds.length=Ds.map Dg.pv:=Cn (by simp)
 unfold JM;simp[kI,Jl,this]
def il{a:Sto}{id g n:Nat}{es xs:List PV}(h:JM a id g 0 n 5=some es):Gj 5 (.arr id g 0 n 5) xs a=(if xs.isEmpty then some ([some (.arr id g 0 n 5)],a)
  else if n+xs.length<=Bo/\xs.all PV.ones/\xs.all PV.okc then some ([some (.arr id (g+1) 0 (n+xs.length) 5)],a.set id [.arrv (g+1) 5 (es++xs.map PV.Ag)]) else none):=by
 simp only[Gj,if_true,h]
def ik(a:Sto):Bt pur run (.w (.Gj 5)) [.nils,.nils] a [some .nils] a:=⟨0,λ_ _=>rfl⟩
def yG{d:Sto}{H T:Sto}{g:Nat}{Ds:List Dg}(f:d=aS H T g Ds)(e:Ds≠[])(i:Ds.length<1000000):Bt pur run (.w (.Gj 5)) [.nils,.arr H.length g 0 Ds.length 5] d [some (.arr d.length 0 0 Ds.length 5)] (aS d [] 0 Ds):=by
 obtain⟨a,b,c,_⟩:=Tn Ds
 have h:I7 5 d (.arr H.length g 0 Ds.length 5)=some (Ds.map Dg.pv):=by
  show(if 5=5 then JM d H.length g 0 Ds.length 5 else none)=_
  rw[if_pos rfl,f,O9]
 refine⟨0,λn _=>?_⟩
 show(match I7 5 d (.arr H.length g 0 Ds.length 5) with | some xs=>Gj 5 .nils xs d | none=>none)=_
 rw[h];show(if _ then _ else _)=_
 rw[if_neg (by cases Ds<;>simp at e ⊢),if_pos ⟨by rw[Ap];unfold Bo;omega,b,c⟩,a,Ap]
 rfl
def yF{H T:Sto}{g:Nat}{Ds:List Dg}:Bt pur run (.w (.Gj 5)) [.arr H.length g 0 Ds.length 5,.nils] (aS H T g Ds) [some (.arr H.length g 0 Ds.length 5)] (aS H T g Ds):=by
 refine⟨0,λn _=>?_⟩
 show Gj 5 (.arr H.length g 0 Ds.length 5) [] (aS H T g Ds)=_;rw[il O9];rfl
def pX{e:Sto}{H T h l:Sto}{g f:Nat}{Ds d:List Dg}(k:e=aS H T g Ds)(i:e=aS h l f d)(j:d≠[])(o:Ds.length+d.length<1000000):
  Bt pur run (.w (.Gj 5)) [.arr H.length g 0 Ds.length 5,.arr h.length f 0 d.length 5] e [some (.arr H.length (g+1) 0 (Ds++d).length 5)] (aS H T (g+1) (Ds++d)):=by
 obtain⟨a,b,c,_⟩:=Tn d
 have m:I7 5 e (.arr h.length f 0 d.length 5)=some (d.map Dg.pv):=by
  show(if 5=5 then JM e h.length f 0 d.length 5 else none)=_
  rw[if_pos rfl,i,O9]
 refine⟨0,λn _=>?_⟩
 show(match I7 5 e (.arr h.length f 0 d.length 5) with | some xs=>Gj 5 (.arr H.length g 0 Ds.length 5) xs e | none=>none)=_
 rw[m,k];show Gj 5 (.arr H.length g 0 Ds.length 5) (d.map Dg.pv) (aS H T g Ds)=_;rw[il O9,if_neg (by cases d<;>simp at j ⊢),if_pos ⟨by rw[Ap];unfold Bo;omega,b,c⟩,a,yM,Ap,Ae]
 unfold aS;rw[BV]
def AUN{H T:Sto}{g:Nat}{Ds:List Dg}:Bt pur run (.w .frz) [.arr H.length g 0 Ds.length 5] (aS H T g Ds) [some (slF 5 (Ds.map Dg.pv))] ((aS H T g Ds).set H.length [.dead]):=by
 obtain⟨_,_,_,d⟩:=Tn Ds;refine⟨0,λn _=>?_⟩
 show(match JM (aS H T g Ds) H.length g 0 Ds.length 5 with
  |some es=>if es.all (λe=>e.flat&&e.cells.all PV.flat) then some ([some (PV.slice false 5 es)],(aS H T g Ds).set H.length [.dead]) else none
  |none=>none)=_
 rw[O9];show(if _ then _ else _)=_
 rw[if_pos d]
def mX(a:Sto):Bt pur run (.w .frz) [.nils] a [some .nils] a:=⟨0,λ_ _=>rfl⟩
def BVB(a:Sto):E 266 [.nils,.func 267 [] []] a (.tuple []) a:=
 CqH (BQ5 (n:=0) (Vz (m1:=0) (m2:=20) am) (BQ3 (a:=0) (b:=0) am (Vv am)) (Vy (m1:=20) am))
def BZA(X:List PV)(d:Dg)(a:List Dg)(T:Sto):X::(lxS (d::a)++T)=aS [X] T a.length (d::a):=rfl
def AZF(X:List PV)(ls:List Tk)(B:Sto)(d:AD)(D:List AD):X::(B++arS ls (d::D))=aS (X::B) [] D.length (dgs ls (d::D)):=by
 unfold aS;rw[xY];rfl
def appM{X:List PV}{ls:List Tk}{a:List Dg}{Bx:Sto}{D:List AD}(i:a.length<100000)(j:D.length<100000):
  ∃h c,Bt pur run (.w (.Gj 5)) [lxH a,wrP ((lxS a++Bx).length+1) D] (X::((lxS a++Bx)++arS ls D)) [some h] c/\
   ((h=.nils/\a++dgs ls D=[])\/∃H T g,h=.arr H.length g 0 (a++dgs ls D).length 5/\c=aS H T g (a++dgs ls D)):=by
 have b:(dgs ls D).length=D.length:=by simp[dgs]
 cases a with
 |nil=>cases D with
  |nil=>exact⟨_,_,ik _,.inl ⟨rfl,rfl⟩⟩
  |cons d D=>
   have h:=yG (d:=X::(Bx++arS ls (d::D))) (AZF X ls Bx d D) (by simp[dgs]) am
   have e:wrP ((lxS []++Bx).length+1) (d::D)=.arr (X::Bx).length D.length 0 (dgs ls (d::D)).length 5:=by rw[b];rfl
   rw[e];exact⟨_,_,h,.inr ⟨_,_,_,rfl,rfl⟩⟩
 |cons e a=>
  cases D with
  |nil=>
   have h:=yF (H:=[X]) (T:=Bx) (g:=a.length) (Ds:=e::a);refine⟨_,_,?_,.inr ⟨[X],Bx,a.length,by rw[show dgs ls []=[] from rfl,Az],by rw[show dgs ls []=[] from rfl,Az]⟩⟩
   rw[show arS ls []=[] from rfl,Az]
   exact h
  |cons d D=>
   have h:=pX (e:=X::((lxS (e::a)++Bx)++arS ls (d::D))) (H:=[X]) (T:=Bx++arS ls (d::D)) (g:=a.length) (Ds:=e::a) (by rw[AC,BZA]) (AZF X ls (lxS (e::a)++Bx) d D) (by simp[dgs]) am
   have f:wrP ((lxS (e::a)++Bx).length+1) (d::D)=.arr (X::(lxS (e::a)++Bx)).length D.length 0 (dgs ls (d::D)).length 5:=by rw[b];rfl
   rw[f];exact⟨_,_,h,.inr ⟨_,_,_,rfl,rfl⟩⟩
def Ov(q:Nat)(D:List AD):Hv (wrP q D):=by cases D<;>first | exact .nil | exact .arr ..
def e48{s:List UInt8}{ls:List Tk}{k l:Nat}{bf:Int}{a:List Dg}{Bx:Sto}{D:List AD}(o:a.length<100000)(v:D.length<100000)(r:Bd (a++dgs ls D)):
  ∃R p,Sd (a++dgs ls D) R/\E 232 [.ref 0 0,lxH a] (pc s ls k l (wrP ((lxS a++Bx).length+1) D) bf::((lxS a++Bx)++arS ls D)) (Ci 5 (R.map Dg.pv)) p:=by
 obtain⟨h,d,i,t⟩:=appM (X:=pc s ls k l (wrP ((lxS a++Bx).length+1) D) bf) (ls:=ls) (Bx:=Bx) o v;rcases t with⟨rfl,q⟩ | ⟨H,T,g,rfl,rfl⟩
 ·exact⟨[],d,by rw[q];exact Sd.refl List.Pairwise.nil,r48 (Ij _) (Ov _ _) .nil i (BVB _) (mX _)⟩
 ·have b:(dgs ls D).length=D.length:=by simp[dgs]
  obtain⟨R,u,f⟩:=e99 (H:=H) (T:=T) (g:=g) (Ds:=a++dgs ls D) (by rw[Ae];omega) r
  have m:=AUN (H:=H) (T:=T) (g:=g) (Ds:=R);rw[f.len] at m;have e:Ci 5 (R.map Dg.pv)=if R=[] then .nils else slF 5 (R.map Dg.pv):=by cases R<;>rfl
  by_cases j:R=[]
  ·
   subst j;have n:=f.len;simp only[Ba] at n;have c:a++dgs ls D=[]:=Ak.1 n.symm;obtain⟨rfl,w⟩:=List.append_eq_nil_iff.1 c;have:D=[]:=Ak.1 (by rw[<-b,w];rfl)
   subst this;exact⟨[],_,Sd.refl List.Pairwise.nil,r48 (Ij []) (Ov _ []) .nil (ik _) (BVB _) (mX _)⟩
  ·refine⟨R,(aS H T g R).set H.length [.dead],f,r48 (Ij _) (Ov _ _) (.arr ..) i u ?_⟩
   rw[e,if_neg j];exact m
def KY(w:Nat->Wd)(k:Nat)(D:List AD):List AD:=if(w k).1=5 then D else D++[⟨4,k,U9⟩]
def apW{X:List PV}{ls:List Tk}{B:Sto}(D:List AD)(d:AD)(h:D.length<100000):Bt pur run (.w (.Gj 5)) [wrP (B.length+1) D,.slice true 5 [dgp ls d]] (X::(B++arS ls D)) [some (wrP (B.length+1) (D++[d]))] (X::(B++arS ls (D++[d]))):=by
 obtain⟨b,a⟩:=lU (ls:=ls) D d;rw[b,a];cases D with
 |nil=>
  have:=UV (X:=X) (T:=B) (o:=true) (d:=dgp ls d) rfl;simpa [arS,wrP] using this
 |cons e D=>exact UW (X:=X) (B:=B) (g:=D.length) (n:=D.length+1) (Ds:=(e::D).map (dgp ls)) (o:=true) (d:=dgp ls d) rfl (by simp) (by simp[Bo] at h ⊢;omega)
def ldWr{s:List UInt8}{ls:List Tk}{B:Sto}{k:Nat}{D:List AD}:Dq (.ld 1 false) [.ref 0 4] (PS4 s ls B k D)=some [some (wrP (B.length+1) D)]:=ldW (Ov _ _)
def BqV{s:List UInt8}{ls:List Tk}{m:Nat}(H:CG s ls m){D:List AD}(b:∀d∈D,d.i<=m):Bd (dgs ls D):=by
 intro x c;obtain⟨d,e,rfl⟩:=E8.1 c;obtain⟨t,a⟩:=H.at (b d e);have f:=H.ord _ _ a;have g:=H.small;show tA ls d.i<_;rw[JI a];omega
def BqU{s:List UInt8}(f:s.length<=4096):Bd (Gn s):=by
 have d:=(LQ s (s.length+1) 0 am am).wf
 have:∀l:List Tk,(∀t∈l,t.a<=4096)->Bd (Ip s l):=by
  intro l
  induction l with
  |nil=>intro _ x a;cases a
  |cons t l c=>
   intro h x a;rw[Ip] at a
   split at a
   ·exact c (λu b=>h u (by simp[b])) x a
   ·rcases AU.1 a with rfl | a
    ·have:=h t (by simp);show t.a<_;omega
    ·exact c (λu b=>h u (by simp[b])) x a
 exact this _ λt e=>by have:=(d t e).1.ord;omega
def Dok.small{k:Nat}{D:List AD}(h:Dok k D):D.length<=k+1:=by
 have:∀(D:List AD) (k j:Nat),D.Pairwise (λa b=>a.i<b.i)->(∀d∈D,j<=d.i/\d.i<=k)->D.length+j<=k+1\/D=[]:=by
  intro D
  induction D with
  |nil=>intro _ _ _ _;exact .inr rfl
  |cons d D i=>
   intro k j l f;have c:=CB.1 l;have m:=f d (by simp)
   refine .inl ?_
   rcases i k (d.i+1) c.2 (λe g=>⟨c.1 e g,(f e (by simp[g])).2⟩) with h | h
   ·simp;omega
   ·subst h;simp;omega
 rcases this D k 0 h.1 (λd f=>⟨Ca _,h.2 d f⟩) with h | h
 ·omega
 ·subst h;simp
def e22{s:List UInt8}(m:s.length<=4096){g:FuncId}(v:pur g=false){U:Tr}{Bx:Sto}{k:Nat}{D:List AD}
  (B:E g [.ref 0 0] (PS4 s (BL s) (lxS (Gn s)) 0 []) U.pv (PS4 s (BL s) (lxS (Gn s)++Bx) k D)) (l:k<=(BL s).length - 1) (p:Dok k D) :
  ∃R f,Sd (Gn s++dgs (BL s) (KY (wAt s (BL s)) k D)) R/\E 155 [.str s,.func g [] []] [] (.tuple [U.pv,Ci 5 (R.map Dg.pv),I 0]) f:=by
 have H:=J7 s;have u:(Gl s).length<=s.length+1:=IR (s.length+1) s 0;have G:(BL s).length<=s.length+1:=Bf (Ew _ _) u;have i:(Gn s).length<100000:=Nat.lt_of_le_of_lt (Ni s _) am
 obtain⟨t,j⟩:=H.at l;have b:=vF (B:=lxS (Gn s)++Bx) (D:=D) H l j;have A:=JU (s:=s) j;have C:=p.small
 have z:∀r:List AD,(∀d∈r,d.i<=k)->Bd (Gn s++dgs (BL s) r):=λr h x c=>by
  rcases Bv.1 c with c | c
  ·exact BqU m x c
  ·exact BqV H (λd a=>Bf (h d a) l) x c
 by_cases y:t.k=5
 ·have e:KY (wAt s (BL s)) k D=D:=by unfold KY;rw[A,if_pos y]
  rw[e];obtain⟨R,f,q,o⟩:=e48 (s:=s) (ls:=BL s) (k:=k) (l:=en (BL s) k) (bf:=bfP (BL s) D) (Bx:=Bx) (D:=D) i am (z D p.2)
  exact⟨R,f,q,BQ0 (Ij _) (e46 s m) rfl v B b am o⟩
 ·have e:KY (wAt s (BL s)) k D=D++[⟨4,k,U9⟩]:=by unfold KY;rw[A,if_neg y]
  rw[e]
  obtain⟨R,f,q,o⟩:=e48 (s:=s) (ls:=BL s) (k:=k) (l:=en (BL s) k) (bf:=bfP (BL s) D) (Bx:=Bx) (D:=D++[⟨4,k,U9⟩]) i (by simp;omega) (z _ λd a=>by
   rcases Bv.1 a with a | a
   ·exact p.2 d a
   ·rw[BR] at a;subst a;exact Ai _)
  have w:=apW (X:=pc s (BL s) k (en (BL s) k) (wrP ((lxS (Gn s)++Bx).length+1) D) (bfP (BL s) D)) (ls:=BL s) (B:=lxS (Gn s)++Bx) D ⟨4,k,U9⟩ am
  have F:dgp (BL s) ⟨4,k,U9⟩=.agg [I 4,N t.a,N t.e,.str U9,.nils]:=by
   show(Dg.mk 4 (tA _ k) (tE _ k) U9).pv=_;rw[JI j,O1 j];rfl
  rw[F] at w;have n:=stW (s:=s) (ls:=BL s) (k:=k) (l:=en (BL s) k) (wr:=wrP ((lxS (Gn s)++Bx).length+1) D) (b:=bfP (BL s) D) (T:=(lxS (Gn s)++Bx)++arS (BL s) (D++[⟨4,k,U9⟩])) (kP _ _) (v:=wrP ((lxS (Gn s)++Bx).length+1) (D++[⟨4,k,U9⟩])) (by rcases Ov ((lxS (Gn s)++Bx).length+1) (D++[⟨4,k,U9⟩]) with h | ⟨_,_,_,_,_,h⟩<;>rw[h]<;>exact⟨rfl,rfl,rfl,rfl⟩)
  exact⟨R,f,q,BQ1 (Ij _) (e46 s m) rfl v B b am (Ov _ _) ldWr (Ov _ _) w n o⟩
def prT(s:List UInt8)(ls:List Tk)(a:List AT):Tr:=.mk 2 [] 0 (s.length:Nat) a.isEmpty (Fh ls a)
def e8{s:List UInt8}(r:s.length<=4096){n:Nat}(m:n<=I9){v:Rs}{k:Nat}{D:List AD}(h:runN (wAt s (BL s)) n (.pg []) 0 []=some (v,k,D)):
  ∃R,Sd (Gn s++dgs (BL s) (KY (wAt s (BL s)) k D)) R/\E 110 [.str s] [] (.tuple [(prT s (BL s) v.2).pv,Ci 5 (R.map Dg.pv),I 0]) []:=by
 have H:=J7 s;obtain⟨ok,e⟩:=BZ2 (B:=lxS (Gn s)++[[.ref 0 0]]) H n m;have a:Dok 0 []:=⟨List.Pairwise.nil,λd h=>by cases h⟩
 have c:=e _ _ _ _ _ _ h (Ca _) a (by simp;omega) (lxS (Gn s)) (λk D=>by
  show Dq (.ld 1 false) [.ref ((lxS (Gn s)).length+1) 0] (pc s (BL s) k (en (BL s) k) _ _::((lxS (Gn s)++[[.ref 0 0]])++arS (BL s) D))=_;have:(pc s (BL s) k (en (BL s) k) (wrP ((lxS (Gn s)++[[PV.ref 0 0]]).length+1) D) (bfP (BL s) D)::((lxS (Gn s)++[[PV.ref 0 0]])++arS (BL s) D))[(lxS (Gn s)).length+1]?=some [.ref 0 0]:=by simp
  simp only[Dq,this]
  rfl)
 obtain⟨t,j,p⟩:=ok _ _ _ _ h (Ca _) a
 have l:PS4 s (BL s) (lxS (Gn s)) 0 []=pc s (BL s) 0 0 .nils (-1)::lxS (Gn s):=by
  show pc s (BL s) 0 0 .nils (-1)::(lxS (Gn s)++[])=_;rw[Az]
 have i:PS4 s (BL s) (lxS (Gn s)++[[.ref 0 0]]) 0 []=pc s (BL s) 0 0 .nils (-1)::(lxS (Gn s)++[[.ref 0 0]]):=by
  show pc s (BL s) 0 0 .nils (-1)::((lxS (Gn s)++[[.ref 0 0]])++[])=_;rw[Az]
 rw[i] at c
 have b:E 156 [.ref 0 0] (PS4 s (BL s) (lxS (Gn s)) 0 []) (prT s (BL s) v.2).pv (PS4 s (BL s) (lxS (Gn s)++[[.ref 0 0]]) k D):=by
  rw[l]
  have o:Dq (.ld 1 false) [.ref ((lxS (Gn s)).length+1) 0] (pc s (BL s) 0 0 .nils (-1)::(lxS (Gn s)++[[.ref 0 0]]))=some [some (.ref 0 0)]:=by
   have:(pc s (BL s) 0 0 .nils (-1)::(lxS (Gn s)++[[PV.ref 0 0]]))[(lxS (Gn s)).length+1]?=some [.ref 0 0]:=by simp
   simp only[Dq,this];rfl
  have:=r23 o c
  have g:(prT s (BL s) v.2).pv=.agg [I 2,.str [],I 0,N s.length,Ci 5 (Tr.pvs (Fh (BL s) v.2))]:=by
   unfold prT;cases v.2<;>rfl
  rw[g];exact this
 obtain⟨R,u,f,q⟩:=e22 r (g:=156) (by rfl) b j p
 exact⟨R,f,r8 q⟩
end Go.Abs.Z

namespace Go.Abs.Z
mutual

def Tr.ins:Tr->Prop
 |.mk _ _ st en _ ks=>oZ st en ks
def oZ:Int->Int->List Tr->Prop
 |_,_,[]=>True
 |a,e,x::xs=>a<=x.st/\x.st<=x.en/\x.en<=e/\x.ins/\oZ x.en e xs
end
section
variable{s:List UInt8}{ls:List Tk}{m:Nat}
def ng(H:CG s ls m){k:Nat}(h:k<=m):en ls k<=tA ls k/\tA ls k<=en ls (k+1):=by
 obtain⟨t,a⟩:=H.at h;refine⟨?_,?_⟩
 ·cases k with
  |zero=>exact Ca _
  |succ k=>
   obtain⟨u,b⟩:=H.at (k:=k) am
   show tE ls k<=_;rw[O1 b,JI a];exact(H.inc _ _ _ _ b a am).2
 ·show _<=tE ls k;rw[O1 a,JI a];exact(H.ord _ _ a).1
def ni(H:CG s ls m){i:Nat}:∀n:Nat,i+n<=m+1->en ls i<=en ls (i+n)
 |0,_=>Ai _
 |n+1,h=>by
  have b:=ni H (i:=i) n am
  have c:=ng H (k:=i+n) am
  show en ls i<=en ls (i+n+1);omega
def nk(H:CG s ls m){i j:Nat}(h:i<=j)(a:j<=m+1):en ls i<=en ls j:=by
 have:=ni H (i:=i) (j - i) am
 rwa [show i+(j - i)=j by omega] at this
def AUY(H:CG s ls m):∀k,k<=m+1->en ls k<=s.length
 |0,_=>Ca _
 |k+1,h=>by
  obtain⟨t,a⟩:=H.at (k:=k) am
  show tE ls k<=_;rw[O1 a];exact(H.ord _ _ a).2
mutual
def Bj5(H:CG s ls m):∀x:AT,x.ok->x.lst<=m->((en ls x.fst:Nat):Int)<=(trP ls x).st/\(trP ls x).st<=(trP ls x).en/\(trP ls x).en=(en ls x.lst:Nat)/\(trP ls x).ins
 |.mk kd tx f k b ks,ho,hm=>by
  have h1:f<=k:=ho.1;have h3:oks f k ks:=ho.2.2;have hk:k<=m:=hm;have hp:=iN H ks f k h3 hk;have e1:=nk H h1 am
  have e2:=ng H (k:=f) am
  have own:((en ls f:Nat):Int)<=(if f<k then((tA ls f:Nat):Int) else(en ls k:Nat))/\(if f<k then((tA ls f:Nat):Int) else(en ls k:Nat))<=((en ls k:Nat):Int):=by
   split
   ·have:=nk H (i:=f+1) (j:=k) am am
    omega
   ·omega
  cases ks with
  |nil=>exact⟨own.1,own.2,rfl,trivial⟩
  |cons y ys=>
   obtain⟨q1,q2⟩:=hp;obtain⟨p1,p2⟩:=q1 (trP ls y) (Fh ls ys) rfl;refine⟨?_,?_,rfl,q2 _ λu us e=>?_⟩
   ·show((en ls f:Nat):Int)<=min _ (trP ls y).st;exact Int.le_min.2 ⟨own.1,p1⟩
   ·show min _ (trP ls y).st<=_;exact Int.le_trans (Int.min_le_left _ _) own.2
   ·cases e;exact Int.min_le_right _ _
def iN(H:CG s ls m):∀(xs:List AT) (lo hi:Nat),oks lo hi xs->hi<=m->(∀u us,Fh ls xs=u::us->((en ls lo:Nat):Int)<=u.st/\u.st<=((en ls hi:Nat):Int))/\∀a:Int,(∀u us,Fh ls xs=u::us->a<=u.st)->oZ a (en ls hi:Nat) (Fh ls xs)
 |[],_,_,_,_=>⟨λu us h=>(by cases h),λ_ _=>trivial⟩
 |x::xs,lo,hi,h,hm=>by
  obtain⟨h1,h2,h3⟩:=h;have h4:=h3.le;have h5:=h2.le;obtain⟨p1,p2,p3,p4⟩:=Bj5 H x h2 am
  obtain⟨q1,q2⟩:=iN H xs x.lst hi h3 hm;have e1:=nk H (i:=lo) (j:=x.fst) h1 am
  have e2:=nk H (i:=x.lst) (j:=hi) h4 am
  refine⟨λu us e=>?_,λa ha=>⟨ha _ _ rfl,p2,am,p4,q2 _ λu us e=>?_⟩⟩
  ·cases e;omega
  ·have:=(q1 u us e).1;omega
end
def AYR(H:CG s ls m){b:List AT}{k:Nat}(h:oks 0 k b)(f:k<=m):(prT s ls b).ins:=by
 obtain⟨j,l⟩:=iN H b 0 k h f;have d:=l 0 λu us e=>(j u us e).1
 have o:=AUY H k am
 have i:∀(xs:List Tr) (a e c:Int),e<=c->oZ a e xs->oZ a c xs:=by
  intro xs
  induction xs with
  |nil=>exact λ_ _ _ _ _=>trivial
  |cons x xs n=>exact λa e c g h=>⟨h.1,h.2.1,by have:=h.2.2.1;omega,h.2.2.2.1,n _ _ _ g h.2.2.2.2⟩
 exact i _ _ _ _ am d
end
end Go.Abs.Z

namespace Go.Abs.Z
open Go.Proofs Go.RowKit
abbrev Str:=List UInt8
inductive Chn(n:Nat):Nat->List Tk->Prop
 |fin {f:Nat} (h:f<=n):Chn n f [⟨5,f,n,n⟩]
 |cons {f:Nat} {t:Tk} {l:List Tk} (hf:t.f=f) (h1:f<=t.a) (h2:t.a<t.e) (h3:t.e<=n) (hk:t.k<5) (h:Chn n t.e l):Chn n f (t::l)
def bT(s:List UInt8):∀(n f:Nat),f<=s.length->s.length - f<n->Chn s.length f (JK n (s.drop f) f)
 |0,f,_,h=>am
 |n+1,f,i,h=>by
  have j:=Mi false (s.drop f);rw[Aw] at j;rw[JK];by_cases b:(s.drop f).drop (skN false (s.drop f))=[]
  ·simp only[b,if_true];rw[BZ,AY] at b;have e:f+skN false (s.drop f)=s.length:=am
   rw[e];exact .fin i
  ·simp only[b,if_false];rw[BZ] at b;simp only[BZ];obtain⟨m,l,c,g⟩:=tJ (s:=s) (f:=f) (a:=f+skN false (s.drop f)) rfl b am
   have d:f+skN false (s.drop f) < s.length:=am
   have k:s.length - (f+skN false (s.drop f)+(Ia (s.drop (f+skN false (s.drop f)))).2) < n:=am
   exact .cons rfl (by simp) (by simp only;omega) c g (bT s n _ c k)
def Chn.bd{n f:Nat}{l:List Tk}(h:Chn n f l):∀t∈l,f<=t.a/\t.a<=t.e/\t.e<=n/\(t.k≠5->t.a<t.e)/\(t.k=5->t.a=n):=by
 induction h with
 |fin h=>intro t b;rw[BR] at b;subst b;exact⟨h,Ai _,Ai _,λh=>absurd rfl h,λ_=>rfl⟩
 |@cons f t l m e g i j h c=>
  intro u a;rcases AU.1 a with rfl | a
  ·exact⟨e,am,i,λ_=>g,λh=>am⟩
  ·obtain⟨k,d⟩:=c u a;exact⟨am,d⟩
abbrev Srt(l:List Tk):Prop:=l.Pairwise λt u=>t.e<=u.a/\t.a<u.a
def pcT(s:Str)(t:Tk):Str:=(s.drop t.f).take (t.e - t.f)
def Chn.text{s:Str}{n f:Nat}{l:List Tk}(h:Chn n f l)(a:n=s.length):l.flatMap (pcT s)=s.drop f:=by
 induction h with
 |@fin f h=>
  subst a;show(s.drop f).take (s.length - f)++[]=_;rw[Az,Cn (by simp)]
 |@cons f t l b d i g e h c=>
  rw[List.flatMap_cons,c];unfold pcT;rw[b];have:s.drop t.e=(s.drop f).drop (t.e - f):=by rw[BZ];congr 1;omega
  rw[this,BH]
end Go.Abs.Z

namespace Go.Abs.Z
open Go.Proofs Go.RowKit
mutual
def Tr.nds:Tr->List Tr
 |.mk kd tx st en b ks=>.mk kd tx st en b ks::CV ks
def CV:List Tr->List Tr
 |[]=>[]
 |x::xs=>x.nds++CV xs
end
section
variable{s:Str}{T:List Tk}
end
instance:DecidableEq Tk:=λa b=>
 if h:a.k=b.k/\a.f=b.f/\a.a=b.a/\a.e=b.e then .isTrue (by obtain⟨h1,h2,h3,h4⟩:=h;cases a;cases b;simp_all) else .isFalse λe=>h (by subst e;exact⟨rfl,rfl,rfl,rfl⟩)
section
variable{t:Tk}
end
section
variable{T ls:List Tk}(l:Srt T)(d:∀t∈T,t.a<=t.e)(j:∀t∈ls,t∈T)
include l d j
end
section
variable{T ls:List Tk}
end
end Go.Abs.Z

namespace Go.Abs.Z
open Go.Proofs Go.RowKit
def KV(K:PV)(ks:List Tr):Prop:=(K=.nils/\ks=[])\/K=.slice false 5 (Tr.pvs ks)
def KV.kp{T:Tr}(w:T.wf):KV T.kp T.kids:=by
 obtain⟨k,t,a,e,n,ks⟩:=T;cases n
 ·exact .inr rfl
 ·exact .inl ⟨rfl,w.1 rfl⟩
def KV.EO{K:PV}{ks:List Tr}(h:KV K ks):K.EO=true:=by
 rcases h with⟨rfl,_⟩ | rfl
 ·rfl
 ·exact Tr.Qv ks
section
variable{s:Str}{T:Tr}{ts:List Tk}{b:Bool}
end
section
variable(s:Str)(T x:Tr)(ts:List Tk)(b:Bool)
variable{s T x ts b}
end
end Go.Abs.Z

namespace Go.Abs.Z
open Go.Proofs Go.RowKit
def mq(x:Tr):0<x.nds.length:=by cases x;simp[Tr.nds]
mutual
def fu:∀(x:Tr) (n:Nat),x.wf->2 * x.nds.length<=n->JO n x.pv=some (x.nds.map Tr.pv)
 |.mk k t a e b ks,n,w,h=>by
  rw[Tr.nds,Ah] at h;obtain⟨n,rfl⟩:∃m,n=m+1:=⟨n - 1,am⟩
  cases b with
  |true=>
   have:ks=[]:=w.1 rfl;subst this;rfl
  |false=>
   have:=WY ks n w.2 am
   show(Ii n (Tr.pvs ks)).map _=_;rw[this];rfl
def WY:∀(xs:List Tr) (n:Nat),Tr.wfs xs->2 * (CV xs).length+1<=n->Ii n (Tr.pvs xs)=some ((CV xs).map Tr.pv)
 |[],n,_,h=>by
  obtain⟨n,rfl⟩:∃m,n=m+1:=⟨n - 1,am⟩
  rfl
 |x::xs,n,w,h=>by
  rw[CV,Ae] at h;have:=mq x;obtain⟨n,rfl⟩:∃m,n=m+1:=⟨n - 1,am⟩
  show(match JO n x.pv,Ii n (Tr.pvs xs) with | some l,some r=>some (l++r) | _,_=>none)=_
  rw[fu x n w.1 am,WY xs n w.2 am,CV,BV]
end
def Sb:∀xs:List Tr,xs.length<=(CV xs).length
 |[]=>Ai _
 |x::xs=>by
  have:=Sb xs;have:=mq x;rw[CV,Ae,Ah];omega
def xc:∀{xs:List Tr} {k:Tr},k∈xs->k.nds.length<=(CV xs).length
 |x::xs,k,h=>by
  rw[CV,Ae];rcases AU.1 h with rfl | h
  ·omega
  ·have:=xc h;omega
def Pt(x:Tr):x.nds.length=1+(CV x.kids).length:=by cases x;simp[Tr.nds,Tr.kids,Cm]
section
variable{s:Str}{ts:List Tk}
end
end Go.Abs.Z

namespace Go.Abs.Z
open Go.Proofs Go.RowKit Go.ChangeShapes Go.WideShapes Go.ChangeAt
open Go.Proofs.YtgkkkgbknfhbaaaGreatDoor
def n24:Tryz.prog.cellsOf 24=5:=by kernel_rfl
def n22:Tryz.prog.cellsOf 22=1:=by kernel_rfl
def n3:Tryz.prog.cellsOf 3=1:=by kernel_rfl
def n9:Tryz.prog.cellsOf 9=1:=by kernel_rfl
def BZC{α:Type}{l:List α}(h:l.length=5):∃a b c d e,l=[a,b,c,d,e]:=by
 match l,h with
 |[a,b,c,d,e],_=>exact⟨a,b,c,d,e,rfl⟩
section
variable{H:Type}{enc:TypeId×Value->H}{W:World}{base:Nat}{sp:Nat->Bool}{held:Bool}
def nY{fuel:Nat}{cs:List Value}{x:DataW H×List MemPlace}(h:DataW.trod enc Tryz.prog W base sp held fuel 24 cs=some x):
  ∃(n:Nat) (k:Int) (s:ByteArray) (st en:Int) (kv:Value) (y:DataW H×List MemPlace),fuel=n+1/\cs=[.int .i64 k,.string s,.int .i64 st,.int .i64 en,kv]/\
   x.1=.agg [.lit (.int .i64 k),.lit (.string s.data.toList),.lit (.int .i64 st),.lit (.int .i64 en),y.1]/\DataW.trod enc Tryz.prog W base sp held n 22 [kv]=some y:=by
 obtain⟨xs,n,rfl,rfl,hl,hlen,hf⟩:=DataW.trod_struct Tryz.underlying24 h;rw[n24] at hl;obtain⟨a,b,c,d,e,rfl⟩:=BZC hl;obtain⟨x0,x1,x2,x3,x4,rfl⟩:=BZC (l:=xs) hlen
 ·have f0:=hf 0 _ rfl;have f1:=hf 1 _ rfl;have f2:=hf 2 _ rfl;have f3:=hf 3 _ rfl;have f4:=hf 4 _ rfl
  ·simp[n3,n9,n22] at f0 f1 f2 f3 f4;obtain⟨k,h0,rfl,_⟩:=DataW.trod_int Tryz.underlying3 f0;obtain⟨s,h1,rfl,_⟩:=DataW.trod_string Tryz.underlying9 f1;obtain⟨st,h2,rfl,_⟩:=DataW.trod_int Tryz.underlying3 f2;obtain⟨en,h3,rfl,_⟩:=DataW.trod_int Tryz.underlying3 f3;cases h0;cases h1;cases h2;cases h3;exact⟨n,k,s,st,en,e,x4,rfl,rfl,rfl,f4⟩
end
def yh{W:World}{a:Addr}{m j:Nat}{v:Value}(h:W.cell? ((a.add m).add j)=some v):W.cell? ⟨a.block,a.off+m+j,none⟩=some v/\a.block<W.heap.size/\(m+j=0->a.spot=none):=by
 obtain⟨b,off,spot⟩:=a
 have hb:((Addr.mk b off spot).add m).add j=⟨b,off+m+j,if m+j=0 then spot else none⟩:=by
  unfold Addr.add;by_cases h1:m=0<;>by_cases h2:j=0<;>simp[h1,h2]
 rw[hb] at h;unfold World.cell? at h ⊢;dsimp only at h ⊢
 split at h
 ·rename_i c e f hh
  have hlt:b<W.heap.size:=by
   rcases Be b W.heap.size with h' | h'
   ·exact h'
   ·rw[DN h'] at hh;cases hh
  refine⟨?_,hlt,λh0=>?_⟩
  ·by_cases h0:(if m+j=0 then spot else none).isSome=true
   ·rw[if_pos h0] at h;cases h
   ·rw[if_neg h0] at h;simpa using h
  ·rw[if_pos h0] at h;cases spot with
   |none=>rfl
   |some s=>simp at h
 ·cases h
def ZZ{α:Type}{Q:Nat->α->Prop}:∀(n:Nat),(∀i,i<n->∃t,Q i t)->∃l:List α,l.length=n/\∀(i:Nat) (t:α),l[i]?=some t->Q i t
 |0,_=>⟨[],rfl,λi t h=>by simp at h⟩
 |n+1,h=>by
  obtain⟨l,hl,hq⟩:=ZZ n λi hi=>h i am
  obtain⟨t,ht⟩:=h n am
  refine⟨l++[t],by simp[hl],λi u hu=>?_⟩
  rcases Be i n with hi | hi
  ·rw[AR am] at hu;exact hq i u hu
  ·rw[Aq am] at hu
   have:i - l.length=0:=by
    rcases Eu (i - l.length) with h0 | h0
    ·exact h0
    ·rw[Ey (by simp;omega)] at hu;cases hu
   rw[this] at hu;cases hu;have:i=n:=am
   rw[this];exact ht
def nA{W:World}{base n:Nat}{a:Addr}{m:Nat}{vs:List Value}(h:W.cells? base (a.add m) n=some vs):∀(j:Nat) (v:Value),vs[j]?=some v->W.cell? ⟨a.block,a.off+m+j,none⟩=some v/\a.block<W.heap.size/\(m+j=0->a.spot=none):=by
 intro j v hv;unfold World.cells? at h
 split at h
 ·have hl:=mapM_some_length h
  have hj:j<n:=by
   rcases Be j n with h' | h'
   ·exact h'
   ·rw[Ey (by rw[hl];simpa using h')] at hv;cases hv
  have:=mapM_some_get h j j (by simp[hj])
  rw[hv] at this;exact yh this
 ·cases h
def WJ{W:World}{a:Addr}{len cap size:Nat}{es:List PV}(hl:es.length=len)(hcap:len<=cap)(h0:0<size)(hsz:∀(i:Nat) (e:PV),es[i]?=some e->e.cells.length=size)
  (hat:∀(i:Nat) (e:PV) (j:Nat) (p:PV),es[i]?=some e->e.cells[j]?=some p->∃v,W.cell? ⟨a.block,a.off+i * size+j,none⟩=some v/\Rep (IW W) W v p/\a.block<W.heap.size/\(i * size+j=0->a.spot=none)) :
  Rep (IW W) W (.slice (some a) len cap) (.slice false size es):=by
 refine .slice (λi j=>(W.cell? ⟨a.block,a.off+i * size+j,none⟩).getD undef) hl.symm hcap ?_ hsz ?_ ?_ ?_
 ·intro hne;cases es with
  |nil=>exact absurd rfl hne
  |cons t ts=>
   have h5:(0:Nat) < t.cells.length:=by rw[hsz 0 t rfl];exact h0
   obtain⟨_,_,_,_,hsp⟩:=hat 0 t 0 _ rfl (Af h5);exact hsp am
 ·intro i e j p he hp;obtain⟨_,_,_,hlt,_⟩:=hat i e j p he hp;exact hlt
 ·intro i e j p he hp;obtain⟨v,hv,_⟩:=hat i e j p he hp;rw[hv];rfl
 ·intro i e j p he hp;obtain⟨v,hv,hr,_⟩:=hat i e j p he hp;rw[hv];exact hr
def qH:∀{ks:List Tr},(∀(i:Nat) (t:Tr),ks[i]?=some t->t.wf)->Tr.wfs ks
 |[],_=>trivial
 |t::ts,h=>⟨h 0 t rfl,qH λi u hu=>h (i+1) u (by simpa using hu)⟩
def AKE{I:Imm}{w:World}{k:Int}{s:ByteArray}{st en:Int}{kv:Value}{n:Bool}{ks:List Tr}(h:Rep I w kv (if n then .nils else .slice false 5 (Tr.pvs ks))):Rep I w (Gy k s st en kv) (Tr.mk k s.data.toList st en n ks).pv:=by
 rw[Tr.pv];refine .agg rfl λi p hp=>?_
 match i with
 |0=>simp at hp;subst hp;exact .int _ _
 |1=>simp at hp;subst hp;exact .str _
 |2=>simp at hp;subst hp;exact .int _ _
 |3=>simp at hp;subst hp;exact .int _ _
 |4=>simp at hp;subst hp;exact h
 |i+5=>simp at hp
def fw{H:Type}:∀(ks:List Tr) (es:List (DataW H)),ks.length=es.length->(∀(i:Nat) (t:Tr) (e:DataW H),ks[i]?=some t->es[i]?=some e->t.nds.length<=Rows.uptoBulk e)->(CV ks).length<=Rows.uptoBulkAll es
 |[],_,_,_=>by simp[CV]
 |k::ks,[],h,_=>by simp at h
 |k::ks,e::es,h,hq=>by
  have h1:=hq 0 k e rfl rfl;have h2:=fw ks es (by simpa using h) λi t e' ht he=>hq (i+1) t e' (by simpa using ht) (by simpa using he)
  simp only[CV,Ae,Rows.uptoBulkAll];omega
def nW{H:Type}{enc:TypeId×Value->H}{W:World}{base:Nat}{sp:Nat->Bool}{held:Bool}:∀(fuel:Nat) (cs:List Value) (x:DataW H×List MemPlace),DataW.trod enc Tryz.prog W base sp held fuel 24 cs=some x->
  ∃(T:Tr) (k:Int) (s:ByteArray) (st en:Int) (kv:Value),cs=[.int .i64 k,.string s,.int .i64 st,.int .i64 en,kv]/\Rep (IW W) W kv T.kp/\T.kind=k/\T.text=s.data.toList/\T.st=st/\T.en=en/\T.wf/\T.nds.length<=Rows.uptoBulk x.1:=by
 intro fuel
 induction fuel using Nat.strongRecOn with
 |_ fuel ih=>
  intro cs x h;obtain⟨n,k,s,st,en,kv,y,hn,rfl,hx,hy⟩:=nY h;subst hn;rcases DataW.trod_slice Tryz.underlying22 hy with⟨hkv,rfl⟩ | ⟨a,len,cap,elems,rest,m,rfl,hkv,rfl,_,hcap,_,hlen,hel,_,_⟩
  ·cases hkv;refine⟨.mk k s.data.toList st en true [],k,s,st,en,_,rfl,.nils,rfl,rfl,rfl,rfl,⟨λ_=>rfl,trivial⟩,?_⟩
   rw[hx];simp[Tr.nds,CV,Rows.uptoBulk]
  ·cases hkv
   have hall:∀i,i<len->∃t:Tr,∃(k:Int) (s:ByteArray) (st en:Int) (kv:Value) (e:DataW H×List MemPlace),elems[i]?=some e/\W.cells? base (a.add (i * 5)) 5=some [.int .i64 k,.string s,.int .i64 st,.int .i64 en,kv]/\
     Rep (IW W) W kv t.kp/\t.kind=k/\t.text=s.data.toList/\t.st=st/\t.en=en/\t.wf/\t.nds.length<=Rows.uptoBulk e.1:=by
    intro i hi;have hi':=hel i hi;rw[n24] at hi';have hsome:elems[i]?=some (elems[i]'am):=Af am
    rw[hsome] at hi';obtain⟨cs',hcs,htr⟩:=AB.1 hi';obtain⟨T,k,s,st,en,kv,rfl,h1⟩:=ih m am cs' _ htr
    exact⟨T,k,s,st,en,kv,_,hsome,hcs,h1⟩
   obtain⟨ks,hkl,hks⟩:=ZZ len hall
   have hget:∀(i:Nat) (e:PV),(Tr.pvs ks)[i]?=some e->∃t,ks[i]?=some t/\e=t.pv:=by
    intro i e he;rw[Tr.Du,Al] at he;obtain⟨t,ht,rfl⟩:=Ac.1 he;exact⟨t,ht,rfl⟩
   refine⟨.mk k s.data.toList st en false ks,k,s,st,en,_,rfl,?_,rfl,rfl,rfl,rfl,⟨λh=>(by cases h),?_⟩,?_⟩
   ·refine WJ (by rw[Tr.Du,Ap,hkl]) hcap (by decide) (λi e he=>?_) λi e j p he hp=>?_
    ·obtain⟨t,_,rfl⟩:=hget i e he;exact Tr.Mr t
    ·obtain⟨t,ht,rfl⟩:=hget i e he;obtain⟨k,s,st,en,kv,e',_,hcs,hrep,q1,q2,q3,q4,_⟩:=hks i t ht;have hc:=nA hcs;rw[Tr.He] at hp;simp only[nd,PV.cells] at hp
     match j,hp with
     |0,hp=>cases hp;exact⟨_,(hc 0 _ rfl).1,q1▸.int _ _,(hc 0 _ rfl).2.1,(hc 0 _ rfl).2.2⟩
     |1,hp=>cases hp;exact⟨_,(hc 1 _ rfl).1,q2▸.str _,(hc 1 _ rfl).2.1,(hc 1 _ rfl).2.2⟩
     |2,hp=>cases hp;exact⟨_,(hc 2 _ rfl).1,q3▸.int _ _,(hc 2 _ rfl).2.1,(hc 2 _ rfl).2.2⟩
     |3,hp=>cases hp;exact⟨_,(hc 3 _ rfl).1,q4▸.int _ _,(hc 3 _ rfl).2.1,(hc 3 _ rfl).2.2⟩
     |4,hp=>cases hp;exact⟨_,(hc 4 _ rfl).1,hrep,(hc 4 _ rfl).2.1,(hc 4 _ rfl).2.2⟩
     |j+5,hp=>simp at hp
   ·exact qH λi t ht=>by
     obtain⟨_,_,_,_,_,_,_,_,_,_,_,_,_,hw,_⟩:=hks i t ht;exact hw
   ·have hb:=fw ks (elems.map (·.1)) (by simp[hkl,hlen]) λi t e ht he=>by
     obtain⟨_,_,_,_,_,e',he',_,_,_,_,_,_,_,hl⟩:=hks i t ht;rw[Al,he'] at he;cases he;exact hl
    rw[hx];simp only[Tr.nds,Ah,Rows.uptoBulk,Rows.uptoBulkAll];omega
def ww{v:Value}{k:Int}{s:ByteArray}{st en:Int}{kv:Value}(h:v.cells.toList=[.int .i64 k,.string s,.int .i64 st,.int .i64 en,kv]):v=Gy k s st en kv:=by
 cases v with
 |agg cs=>
  simp only[Value.cells] at h;rw[Gy,<-Cw.1 (show cs.toList=#[Value.int .i64 k,.string s,.int .i64 st,.int .i64 en,kv].toList from h)]
 |_=>simp[Value.cells] at h
def uX{H:Type}{enc:TypeId×Value->H}{W:World}{base:Nat}{sp:Nat->Bool}{held:Bool}{v:Value}{d:DataW H}{p:List MemPlace}(h:DataW.Trod enc Tryz.prog W base sp held 24 v d p):
  ∃T:Tr,Rep (IW W) W v T.pv/\T.wf/\T.nds.length<=Rows.uptoBulk d:=by
 obtain⟨n,hn⟩:=h;obtain⟨T,k,s,st,en,kv,hc,hr,q1,q2,q3,q4,hw,hl⟩:=nW n _ _ hn;rw[ww hc];refine⟨T,?_,hw,hl⟩
 obtain⟨kd,tx,a,e,nb,ks⟩:=T;simp only[Tr.kind,Tr.text,Tr.st,Tr.en] at q1 q2 q3 q4;subst q1 q2 q3 q4;exact AKE hr
def jm:Tryz.prog.readableRec 24=true:=by kernel_rfl
def BjX:24<Tryz.prog.types.size:=of_decide_eq_true (by kernel_rfl)
def XI{t:TypeId}(hr:Tryz.prog.readableRec t=true)(ht:t<Tryz.prog.types.size){H:Type}{enc:TypeId×Value->H}{W W':World}{v:Value}{d:DataW H}{p:List MemPlace}(h:DataW.Trod enc Tryz.prog W 0 (λ_=>true) true t v d p)(hb:Below W.heap.size W W')(hlt:∀x∈p,x.block<W.heap.size)
  (sp:Nat->Bool) (hs:∀x∈p,sp x.block=true):DataW.Trod enc Tryz.prog W' 0 sp true t v d p:=
 WideElems.Trod_stays eX hr ht h (λx hx=>hb.same (hlt x hx)) hs
end Go.Abs.Z

namespace Go.Abs.Z
open PV
open Go.Proofs Go.RowKit
def AzU{l m:List Tr}(a:m≠[])(b:l.length+m.length<=Bo):AQ (.app 5) [.slice true 5 (Tr.pvs l),slF 5 (Tr.pvs m)]=some [some (.slice true 5 (Tr.pvs (l++m))),some (slF 5 (Tr.pvs l))]:=by
 have e:Tr.pvs (l++m)=Tr.pvs l++Tr.pvs m:=by rw[Tr.Du,Tr.Du,Tr.Du,BV]
 rw[e];refine NV ?_ ?_ ?_
 ·rw[Tr.Du,Tr.Du,Ap,Ap];exact b
 ·cases m with
  |nil=>exact absurd rfl a
  |cons=>rfl
 ·rw[Tr.Du];simp
def RT13:Rn 14 a14:=rn
def BUC{x:Tr}{l:List Tr}(a:LL a14 0 [(1,vptr x.pv),(3,slice true 5 (Tr.pvs [x])),(4,N 0)] [] (.exit 0) [(3,slice true 5 (Tr.pvs l))] []):EvE 14 [x.pv] (slF 5 (Tr.pvs l)):=
 rule RT13 [sp 0 (BQ x),st 1 (Q (AL x)),sp 0 (QU:AQ (.bsl 5) [x.pv]=some [some (.slice true 5 [x.pv])]),sl 2 [1,3,4] a]
def BxD{x U:Tr}{l m:List Tr}{j:Nat}(w:x.wf)(k:j<x.kids.length)(g:x.kids[j]?=some U)(h:EvE 14 [U.pv] (slF 5 (Tr.pvs m)))(d:m≠[])(f:l.length+m.length<=Bo)(i:j<2000000000){e:CE}{b:FF}{a:Sto}(c:LL a14 0 [(1,vptr x.pv),(3,slice true 5 (Tr.pvs (l++m))),(4,N (j+1))] [] e b a):LL a14 0 [(1,vptr x.pv),(3,slice true 5 (Tr.pvs l)),(4,N j)] [] e b a:=
 BC [1,3,4] [sp 1 (DI x),st 0 (Q (EE x)),sp 0 (EZ w),sp 0 (AZ .i64 (show(j:Int) < (x.kids.length:Int) by omega)),sp 2 (DI x),st 0 (Q (EE x)),sp 1 (EL j w g),st 0 (Q (AL U)),st 0 (oC h),sp 0 (AzU d f),sp 2 (AO j 1 i)] c
def BxC{x:Tr}{l:List Tr}{j:Nat}(w:x.wf)(a:¬j<x.kids.length):LL a14 0 [(1,vptr x.pv),(3,slice true 5 (Tr.pvs l)),(4,N j)] [] (.exit 0) [(3,slice true 5 (Tr.pvs l))] []:=
 Bw [3] [sp 1 (DI x),st 0 (Q (EE x)),sp 0 (EZ w),sp 0 (Bh .i64 (show ¬(j:Int) < (x.kids.length:Int) by omega))]
def RT4:Rn 5 a5:=rn
section
variable{x:Tr}{q:List Tr}(h:EvE 14 [x.pv] (slF 5 (Tr.pvs q)))
include h
theorem BUB(a:LL a5 0 [(1,I 60),(5,slice false 5 (Tr.pvs q)),(6,N 0)] [] (.exit 0) [(1,I 60),(5,slice false 5 (Tr.pvs q))] []):EvE 5 [x.pv,I 60] (.bool (decide ((q.length:Int)<=60))):=
 rule RT4 [sp 0 (BQ x),st 1 (Q (AL x)),st 0 (oC h),sl 2 [1,5,6] a,sp 1 (IC false 5 q)]
theorem BUA(a:LL a5 0 [(1,I 60),(5,slice false 5 (Tr.pvs q)),(6,N 0)] [] .ret [(4,bool false)] []):EvE 5 [x.pv,I 60] (.bool false):=
 rule RT4 [sp 0 (BQ x),st 1 (Q (AL x)),st 0 (oC h),sl 2 [1,5,6] a]
end
def BxB{q:List Tr}{U:Tr}{j:Nat}(f:j<q.length)(d:q[j]?=some U)(h:U.text.length<=60)(l:j<2000000000){e:CE}{b:FF}{a:Sto}(c:LL a5 0 [(1,I 60),(5,slice false 5 (Tr.pvs q)),(6,N (j+1))] [] e b a):LL a5 0 [(1,I 60),(5,slice false 5 (Tr.pvs q)),(6,N j)] [] e b a:=
 BC [1,5,6] [sp 2 (IC false 5 q),sp 0 (AZ .i64 (show(j:Int) < (q.length:Int) by omega)),sp 3 (Jf (o:=false) (s:=5) j d),sp 0 (Er U),sp 2 (Cz .i64 (show ¬(U.text.length:Int) > 60 by omega)),sp 2 (AO j 1 l)] c
def BU9{q:List Tr}{U:Tr}{j:Nat}(b:j<q.length)(a:q[j]?=some U)(h:¬U.text.length<=60):LL a5 0 [(1,I 60),(5,slice false 5 (Tr.pvs q)),(6,N j)] [] .ret [(4,bool false)] []:=
 Bw [4] [sp 2 (IC false 5 q),sp 0 (AZ .i64 (show(j:Int) < (q.length:Int) by omega)),sp 3 (Jf (o:=false) (s:=5) j a),sp 0 (Er U),sp 2 (CF .i64 (show(U.text.length:Int) > 60 by omega))]
def BU8{q:List Tr}{j:Nat}(a:¬j<q.length):LL a5 0 [(1,I 60),(5,slice false 5 (Tr.pvs q)),(6,N j)] [] (.exit 0) [(1,I 60),(5,slice false 5 (Tr.pvs q))] []:=
 Bw [1,5] [sp 2 (IC false 5 q),sp 0 (Bh .i64 (show ¬(j:Int) < (q.length:Int) by omega))]
end Go.Abs.Z

namespace Go.Abs.Z
noncomputable section
open PV
open Go.Proofs Go.RowKit
def asV(p:Nat->Bool):PV:=.agg ((List.range 256).map λi=>.bool (p i))
def AJY:AQ (.sti 256) [.hole 256,asV λi=>i==9||i==32]=some [some (.vptr (asV λi=>i==9||i==32))]:=by kernel_rfl
def mQ(L:List PV)(c:UInt8){b:Bool}(h:L[c.toNat]?=some (.bool b)):AQ (.ixa 256 1 false) [.vptr (.agg L),.int .u8 (c.toNat:Int)]=some [some (.vptr (.bool b))]:=by
 have f:=c.toNat_lt
 have d:sub (.agg L) c.toNat 1 false=some (.bool b):=by
  show(match L[c.toNat]? with
   |some x=>if x.isAgg||x.isSelf then none else some x
   |none=>none)=_
  rw[h];rfl
 have e:ixV 256 1 false (.vptr (.agg L)) (.int .u8 (c.toNat:Int))=some (.vptr (.bool b)):=by
  unfold ixV;dsimp only;rw[if_pos ⟨am,am⟩,EH,Gg]
  unfold faV;dsimp only;rw[d];rfl
 have a:AQ (.ixa 256 1 false) [.vptr (.agg L),.int .u8 (c.toNat:Int)]=(ixV 256 1 false (.vptr (.agg L)) (.int .u8 (c.toNat:Int))).map λv=>[some v]:=rfl
 rw[a,e];rfl
def AUE(c:UInt8):AQ (.ixa 256 1 false) [.vptr (asV λi=>i==9||i==32),.int .u8 (c.toNat:Int)]=some [some (.vptr (.bool (c.toNat==9||c.toNat==32)))]:=
 mQ ((List.range 256).map λi=>.bool (i==9||i==32)) c (by have:=c.toNat_lt;rw[Al,FO am,AJ])
def SE(s:List UInt8)(a:Nat)(h:a<=s.length):AQ (.ssl false true) [.str s,N a]=some [some (.str (s.take a))]:=by
 have c:(0:Int)<=(a:Int):=am
 have b:(a:Int)<=(s.length:Nat):=am
 simp[AQ,QP,c,b,h]
def SC(s:List UInt8)(a:Nat)(h:a<=s.length):AQ (.ssl true false) [.str s,N a]=some [some (.str (s.drop a))]:=by
 have c:(0:Int)<=(a:Int):=am
 have b:(a:Int)<=(s.length:Nat):=am
 have:(s.drop a).take (s.length - a)=s.drop a:=Cn (by rw[Aw];omega)
 simp[AQ,QP,c,b,h,this]
def lg(c:UInt8)(s:List UInt8):AQ (.ssl true false) [.str (c::s),I 1]=some [some (.str s)]:=SC (c::s) 1 (by rw[Ah];omega)
def RU20:Rn 56 a56:=rn
def BU7{s:List UInt8}{a x:Tr}{ts:List Tk}{D:List PV}{w b:Bool}(d:w=decide ((D.length:Int) > 0))(e:EvE 110 [.str s] (.tuple [a.pv,Ci 5 D,I 0]))(f:EvE 94 [.str s] (.tuple [slF 4 (ts.map Tk.pv),I 0]))(c:EvE 111 [a.pv,x.pv] (.bool b)):EvE 56 [.str s,x.pv] (.tuple [srV s x ts w,.bool b]):=
 Br RU20 [sp 0 (BQ x),st 3 (MK (a:=[]) (vs:=[.str s]) (r':=.tuple [a.pv,Ci 5 D,I 0]) e rfl rfl (by simp) rfl),sp 1 (CP (l:=[a.pv,Ci 5 D,I 0]) 0 (v:=a.pv) rfl (by simp) (by simp)),sp 0 (CP (l:=[a.pv,Ci 5 D,I 0]) 1 (v:=Ci 5 D) rfl (by simp) (by simp)),sp 0 (CP (l:=[a.pv,Ci 5 D,I 0]) 2 (v:=I 0) rfl (by simp) (by simp)),sp 1 (BD a),sp 0 (NK 5 D),st 2 (oC f),st 6 (Q (AL x)),sp 1 (NK 5 D),sp 0 (fG 5 D),sp 0 (by rw[d];rfl:AQ (.bin .gtr 0) [N D.length,I 0]=some [some (.bool w)]),sp 0 (ym s x ts w),sg 7 (Q (AL a)),sg 0 (Q (AL x)),sg 0 (oC c),sp 1 (AJX s x ts w (.str []) (I 0) (.str []) (I 0) (I 0) .nils .nils (.bool false))] (by simp[Et,CX,PV.Fz]:(FE [(4,some (srV s x ts w)),(5,bool b)] [(4,some 8),(5,none)]).bind CX=some (.tuple [srV s x ts w,.bool b]))
def yY:Rn 135 U3:=rn
def RU73:Rn 79 a79:=rn
def RU28:Rn 34 a34:=rn
def qy{s:List UInt8}:LL U3 0 [(0,str s),(1,int .u8 10),(5,I (-1))] [] (.exit 0) [] []:=
 Bw [] []
def AJ6:EvE 135 [.str [],.int .u8 10] (I (-1)):=
 rule yY [sl 5 [0,1,5] (qy (s:=[]))]
section
variable{s:List UInt8}
def AJ5(h:1<=s.length)(l:s.length<2000000000)(a:LL U3 0 [(0,str s),(1,int .u8 10),(5,N (s.length - 1))] [] (.exit 0) [] []):EvE 135 [.str s,.int .u8 10] (I (-1)):=
 rule yY [sp 3 (Fb s.length 1 h l),sl 1 [0,1,5] a]
def AJ4{k:Nat}(h:1<=s.length)(l:s.length<2000000000)(a:LL U3 0 [(0,str s),(1,int .u8 10),(5,N (s.length - 1))] [] .ret [(4,N k)] []):EvE 135 [.str s,.int .u8 10] (N k):=
 rule yY [sp 3 (Fb s.length 1 h l),sl 1 [0,1,5] a]
section
variable{k:Nat}{c:UInt8}(g:s[k]?=some c)
include g
def AjH:List Stp:=[sp 1 (Gi .i64 (show(k:Int)>=0 by omega)),sp 3 (Bi s k c g)]
theorem AJ3(a:(c.toNat:Int)=10):LL U3 0 [(0,str s),(1,int .u8 10),(5,N k)] [] .ret [(4,N k)] []:=
 Bw [4] (AjH g++[sp 1 (Bz .u8 a)])
theorem qx(d:(c.toNat:Int)≠10)(h:1<=k)(l:k<2000000000){e:CE}{b:FF}{a:Sto}(f:LL U3 0 [(0,str s),(1,int .u8 10),(5,N (k - 1))] [] e b a):LL U3 0 [(0,str s),(1,int .u8 10),(5,N k)] [] e b a:=
 BC [0,1,5] (AjH g++[sp 1 (Bb .u8 d),sp 2 (Fb k 1 h l)]) f
end
def AJ2{c:UInt8}(g:s[0]?=some c)(d:(c.toNat:Int)≠10){e:CE}{b:FF}{a:Sto}(f:LL U3 0 [(0,str s),(1,int .u8 10),(5,I (-1))] [] e b a):LL U3 0 [(0,str s),(1,int .u8 10),(5,N 0)] [] e b a:=
 BC [0,1,5] [sp 1 (Gi .i64 (show(0:Int)>=0 by omega)),sp 3 (Bi s 0 c g),sp 1 (Bb .u8 d)] f
def AJ0{z:Int}(h:EvE 135 [.str s,.int .u8 10] (I z)):EvE 79 [.str s,.int .u8 10] (I z):=
 rule RU73 [st 3 (oC h)]
def AJ1{a b:Nat}{z:Int}(d:a<=s.length)(h:EvE 79 [.str (s.take a),.int .u8 10] (I z))(c:BM (.bin .add 0) [I z,I 1] (N b)):EvE 34 [.str s,N a] (N b):=
 rule RU28 [sp 3 (SE s a d),st 0 (oC h),sp 0 c]
end
def RU75:Rn 74 a74:=rn
def AZZ{e:CE}{a:FF}{b:Sto}(c:LL a74 0 [(0,str [9,32]),(2,some (asV λi=>i==9)),(4,N 1)] [] e a b):LL a74 0 [(0,str [9,32]),(2,some (asV λ_=>false)),(4,N 0)] [] e a b:=
 BC [0,2,4] [] c
def AZY{e:CE}{a:FF}{b:Sto}(c:LL a74 0 [(0,str [9,32]),(2,some (asV λi=>i==9||i==32)),(4,N 2)] [] e a b):LL a74 0 [(0,str [9,32]),(2,some (asV λi=>i==9)),(4,N 1)] [] e a b:=
 BC [0,2,4] [] c
def Bx4:LL a74 0 [(0,str [9,32]),(2,some (asV λi=>i==9||i==32)),(4,N 2)] [] (.exit 0) [(0,str [9,32]),(2,some (asV λi=>i==9||i==32))] []:=
 Bw [0,2] []
def BU6:EvE 74 [.str [9,32]] (.tuple [(asV λi=>i==9||i==32),.bool true]):=
 rule RU75 [sl 3 [0,2,4] (AZZ (AZY Bx4))]
def BYB:Rn 131 a131:=rn
def Bx7(c:UInt8):EvE 131 [.vptr (asV λi=>i==9||i==32),.int .u8 (c.toNat:Int)] (.bool (c.toNat==9||c.toNat==32)):=
 rule BYB [sp 4 (AUE c)]
def RU76:Rn 75 a75:=rn
def BU5{s r:List UInt8}(a:LL a75 0 [(0,str s),(1,vptr (asV λi=>i==9||i==32))] [] (.exit 0) [(0,str r),(1,vptr (asV λi=>i==9||i==32))] []):EvE 75 [.str s,.vptr (asV λi=>i==9||i==32)] (.str r):=
 rule RU76 [sl 1 [0,1] a]
def Bx1:LL a75 0 [(0,str []),(1,vptr (asV λi=>i==9||i==32))] [] (.exit 0) [(0,str []),(1,vptr (asV λi=>i==9||i==32))] []:=
 Bw [0,1] []
def Bx2{s:List UInt8}{c:UInt8}(h:EvE 131 [.vptr (asV λi=>i==9||i==32),.int .u8 (c.toNat:Int)] (.bool false)):LL a75 0 [(0,str (c::s)),(1,vptr (asV λi=>i==9||i==32))] [] (.exit 0) [(0,str (c::s)),(1,vptr (asV λi=>i==9||i==32))] []:=
 Bw [0,1] [sp 2 (CF .i64 (show(((c::s).length:Nat):Int) > 0 by rw[Ah];omega)),sp 3 (Bi (c::s) 0 c rfl),st 0 (FR (vs:=[.vptr (asV λi=>i==9||i==32),.int .u8 (c.toNat:Int)]) (zs:=[.vptr (asV λi=>i==9||i==32),.int .u8 (c.toNat:Int)]) (h:E 131 _ [] (.bool false) []) rfl rfl rfl rfl)]
def Bx3{s:List UInt8}{c:UInt8}(h:EvE 131 [.vptr (asV λi=>i==9||i==32),.int .u8 (c.toNat:Int)] (.bool true)){e:CE}{b:FF}{a:Sto}(d:LL a75 0 [(0,str s),(1,vptr (asV λi=>i==9||i==32))] [] e b a):LL a75 0 [(0,str (c::s)),(1,vptr (asV λi=>i==9||i==32))] [] e b a:=
 BC [0,1] [sp 2 (CF .i64 (show(((c::s).length:Nat):Int) > 0 by rw[Ah];omega)),sp 3 (Bi (c::s) 0 c rfl),st 0 (FR (vs:=[.vptr (asV λi=>i==9||i==32),.int .u8 (c.toNat:Int)]) (zs:=[.vptr (asV λi=>i==9||i==32),.int .u8 (c.toNat:Int)]) (h:E 131 _ [] (.bool true) []) rfl rfl rfl rfl),sp 3 (lg c s)] d
def BYA:Rn 63 a63:=rn
def Bx6:EvE 63 [.str [],.str [9,32]] (.str []):=
 rule BYA []
set_option maxRecDepth 100000 in
def Bx5{s r:List UInt8}(hs:s≠[])(h:EvE 75 [.str s,.vptr (asV λi=>i==9||i==32)] (.str r)):EvE 63 [.str s,.str [9,32]] (.str r):=
 rule BYA [sp 2 (II hs),st 15 (oC BU6 ⟨rfl,rfl,rfl,rfl⟩),sp 1 (CP (l:=[(asV λi=>i==9||i==32),.bool true]) 0 (v:=(asV λi=>i==9||i==32)) rfl rfl rfl),sp 0 (CP (l:=[(asV λi=>i==9||i==32),.bool true]) 1 (v:=.bool true) rfl rfl rfl),sp 1 AJY,st 4 (FR (vs:=[.str s,.vptr (asV λi=>i==9||i==32)]) h rfl rfl rfl rfl)]
def BqM:Rn 23 a23:=rn
def BxA{s:List UInt8}{z:Int}(a:z<0):EvE 23 [.str s,I z] (.str []):=
 rule BqM [sp 2 (AZ .i64 a)]
def Bx9{s:List UInt8}{z:Int}(a:¬z<0)(b:z>(s.length:Int)):EvE 23 [.str s,I z] (.str []):=
 rule BqM [sp 2 (Bh .i64 a),sq 4 (CF .i64 b)]
def Bx8{s r:List UInt8}{a b:Nat}(g:a<=s.length)(d:EvE 34 [.str s,N a] (N b))(f:b<=s.length)(c:EvE 63 [.str (s.drop b),.str [9,32]] (.str r))(e:r.length<=(s.drop b).length)(l:s.length<2000000000):EvE 23 [.str s,N a] (.str ((s.drop b).take ((s.drop b).length - r.length))):=
 rule BqM [sp 2 (Bh .i64 (show ¬(a:Int) < 0 by omega)),sq 4 (Cz .i64 (show ¬(a:Int) > (s.length:Int) by omega)),st 5 (oC d),sp 0 (SC s b f),st 5 (oC c),sp 1 (Fb (s.drop b).length r.length e (by rw[Aw];omega)),sp 0 (SE (s.drop b) ((s.drop b).length - r.length) (Nat.sub_le ..))]
end
noncomputable section
open Go.Proofs Go.RowKit
def H7{x y:List UInt8}(h:x=y):AQ (.bin .eql 0) [.str x,.str y]=some [some (.bool true)]:=by
 subst h;show some [some (PV.bool (x==x))]=_;rw[beq_self_eq_true]
def Ha{x y:List UInt8}(h:x≠y):AQ (.bin .eql 0) [.str x,.str y]=some [some (.bool false)]:=by
 show some [some (PV.bool (x==y))]=_;rw[beq_eq_false_iff_ne.2 h]
def JE{a:Type}{z:Nat}(f:a->PV)(l:List a):AQ (.len false) [.slice false z (l.map f)]=some [some (N l.length)]:=by
 show some [some (PV.int .i64 ((l.map f).length:Nat))]=_;rw[Ap]
def Hf{a:Type}{z:Nat}{f:a->PV}{l:List a}{x:a}(j:Nat)(h:l[j]?=some x):AQ (.idx z) [.slice false z (l.map f),N j]=some [some (.vptr (f x))]:=Nb _ _ _ _ _ (by rw[Al,h];rfl)
def AU7(l:List UInt8):AQ (.len false) [slF 1 (l.map λb=>PV.int .u8 b.toNat)]=some [some (N l.length)]:=JE _ l
def AUL{l:List UInt8}{b:UInt8}(j:Nat)(h:l[j]?=some b):AQ (.idx 1) [slF 1 (l.map λb=>PV.int .u8 b.toNat),N j]=some [some (.vptr (.int .u8 b.toNat))]:=Hf j h
def yU:Rn 242 a242:=rn
def iD:Rn 163 a163:=rn
def nI:Rn 248 RP:=rn
def yX:Rn 170 a170:=rn
def BWI:Rn 244 a244:=rn
def AZJ:Rn 279 aX:=rn
def BWJ:Rn 243 a243:=rn
def AZN:Rn 245 a245:=rn
def BWG:Rn 247 BW0:=rn
def AZI:Rn 280 MO:=rn
def BWH:Rn 246 a246:=rn
def AZS:Rn 168 a168:=rn
def AZR:Rn 169 a169:=rn
def AZU:Rn 147 a147:=rn
def BW7:Rn 59 a59:=rn
def AZT:Rn 166 a166:=rn
def yV:Rn 171 a171:=rn
section
variable{c:UInt8}{t s:List UInt8}{m j k:Nat}{z x y:Int}{b:Bool}{e:CE}{A:FF}{G:Sto}{l:List Int}{g f:FuncId}{cs F:List PV}
def BzF(h:EvE 202 [.int .u8 (c.toNat:Int)] (.bool true)):EvE 242 [.int .u8 (c.toNat:Int)] (.bool true):=
 rule yU [st 2 (oC h)]
section
variable(h:EvE 202 [.int .u8 (c.toNat:Int)] (.bool false))
include h
theorem BzE(a:EvE 204 [.int .u8 (c.toNat:Int)] (.bool true)):EvE 242 [.int .u8 (c.toNat:Int)] (.bool true):=
 rule yU [st 2 (oC h),sg 2 (oC a)]
theorem BzD(a:EvE 204 [.int .u8 (c.toNat:Int)] (.bool false)):EvE 242 [.int .u8 (c.toNat:Int)] (.bool ((c.toNat:Int)==95)):=
 rule yU [st 2 (oC h),sg 2 (oC a)]
end
def BzW:EvE 163 [.str []] (.bool false):=
 rule iD []
def BzV(h:((((c::t).length:Nat):Nat):Int) > 16):EvE 163 [.str (c::t)] (.bool false):=
 rule iD [sq 6 (CF .i64 h)]
section
variable(h:¬((((c::t).length:Nat):Nat):Int) > 16)
include h
def tH:List Stp:=[sq 6 (Cz .i64 h),sq 3 (Bi (c::t) 0 c rfl)]
theorem BzU(a:EvE 202 [.int .u8 (c.toNat:Int)] (.bool false)):EvE 163 [.str (c::t)] (.bool false):=
 rule iD (tH h++[sg 0 (oC a)])
section
variable(D:EvE 202 [.int .u8 (c.toNat:Int)] (.bool true))
include D
theorem BzT(a:EvE 205 [.str (c::t)] (.bool true)):EvE 163 [.str (c::t)] (.bool false):=
 rule iD (tH h++[sg 0 (oC D),sg 4 (oC a)])
theorem BzS(d:EvE 205 [.str (c::t)] (.bool false))(a:EvE 200 [.str (c::t),N 0,.func 242 [] []] (N m)):EvE 163 [.str (c::t)] (.bool ((m:Int)==((((c::t).length:Nat):Nat):Int))):=
 rule iD (tH h++[sg 0 (oC D),sg 4 (oC d),st 3 (oC a)])
end
end
def BzA:EvE 248 [.str []] (.tuple [I 0,.bool false]):=
 rule nI []
def Bz9(h:((((c::t).length:Nat):Nat):Int) > 9):EvE 248 [.str (c::t)] (.tuple [I 0,.bool false]):=
 rule nI [sq 7 (CF .i64 h)]
section
variable(h:¬((((c::t).length:Nat):Nat):Int) > 9)(D:EvE 200 [.str (c::t),N 0,.func 204 [] []] (N m))
include h D
theorem Bz8(a:(m:Int) < ((((c::t).length:Nat):Nat):Int)):EvE 248 [.str (c::t)] (.tuple [I 0,.bool false]):=
 rule nI [sq 7 (Cz .i64 h),sg 3 (oC D),sq 2 (AZ .i64 a)]
theorem Bz7(d:¬(m:Int) < ((((c::t).length:Nat):Nat):Int))(a:BM .cvb [.str (c::t)] (slF 1 ((c::t).map λb=>PV.int .u8 b.toNat)))(L:LL RP 0 [(4,some (I 0)),(22,some (slF 1 ((c::t).map λb=>PV.int .u8 b.toNat))),(23,some (N (c::t).length)),(24,some (N 0))] [] (.exit 0) [(4,some (I z))] []):EvE 248 [.str (c::t)] (.tuple [I z,.bool true]):=
 rule nI [sq 7 (Cz .i64 h),sg 3 (oC D),sq 2 (Bh .i64 d),sp 4 a,sp 0 (AU7 (c::t)),sl 1 [4,22,23,24] L]
end
def Bz6{b:UInt8}{z1 h d i:Int}(v:j<s.length)(u:s.length<1000)(o:s[j]?=some b)(n:BM (.bin .mul 0) [I 10,I z] (I z1))(r:BM (.bin .sub 0) [.int .u8 (b.toNat:Int),.int .u8 48] (.int .u8 h))(q:BM (.cvt .i64) [.int .u8 h] (I d))(p:BM (.bin .add 0) [I z1,I d] (I i))(a:LL RP 0 [(4,some (I i)),(22,some (slF 1 (s.map λb=>PV.int .u8 b.toNat))),(23,some (N s.length)),(24,some (N (j+1)))] [] e A G):LL RP 0 [(4,some (I z)),(22,some (slF 1 (s.map λb=>PV.int .u8 b.toNat))),(23,some (N s.length)),(24,some (N j))] [] e A G:=
 BC [4,22,23,24] [sp 0 (AZ .i64 (show(j:Int) < (s.length:Int) by omega)),sp 1 (AUL j o),sp 3 n,sp 1 r,sp 0 q,sp 0 p,sp 1 (AO j 1 am)] a
def Bz5(a:¬j<s.length):LL RP 0 [(4,some (I z)),(22,some (slF 1 (s.map λb=>PV.int .u8 b.toNat))),(23,some (N s.length)),(24,some (N j))] [] (.exit 0) [(4,some (I z))] []:=
 Bw [4] [sp 0 (Bh .i64 (show ¬(j:Int) < (s.length:Int) by omega))]
def BzL(h:EvE 248 [.str s] (.tuple [I z,.bool false])):EvE 170 [.str s] (.bool false):=
 rule yX [st 2 (oC h)]
def BzK(h:EvE 248 [.str [48]] (.tuple [I z,.bool true])):EvE 170 [.str [48]] (.bool true):=
 rule yX [st 2 (oC h)]
def BzJ(h:EvE 248 [.str (c::t)] (.tuple [I z,.bool true]))(a:(c::t)≠[48]):EvE 170 [.str (c::t)] (.bool ((c.toNat:Int) != 48)):=
 rule yX [st 2 (oC h),sq 8 (Ha a),sq 2 (Bi (c::t) 0 c rfl)]
def AjD(h:EvE 279 [slF 1 (l.map (PV.int .i64)),I x] (I z)):EvE 244 [slF 1 (l.map (PV.int .i64)),I x] (.bool (decide (z>=0))):=
 rule BWI [st 3 (oC h)]
def Bz4(L:LL aX 0 [(0,some (slF 1 (l.map (PV.int .i64)))),(1,some (I x)),(7,some (N l.length)),(8,some (N 0))] [] (.exit 0) [] []):EvE 279 [slF 1 (l.map (PV.int .i64)),I x] (I (-1)):=
 rule AZJ [sp 2 (JE (z:=1) (PV.int .i64) l),sl 1 [0,1,7,8] L]
def Bz3(L:LL aX 0 [(0,some (slF 1 (l.map (PV.int .i64)))),(1,some (I x)),(7,some (N l.length)),(8,some (N 0))] [] .ret [(4,some (N k))] []):EvE 279 [slF 1 (l.map (PV.int .i64)),I x] (N k):=
 rule AZJ [sp 2 (JE (z:=1) (PV.int .i64) l),sl 1 [0,1,7,8] L]
def Bz2(i:j<l.length)(d:l[j]?=some y)(h:l.length<1000)(a:x=y):LL aX 0 [(0,some (slF 1 (l.map (PV.int .i64)))),(1,some (I x)),(7,some (N l.length)),(8,some (N j))] [] .ret [(4,some (N j))] []:=
 Bw [4] [sp 0 (AZ .i64 (show(j:Int) < (l.length:Int) by omega)),sp 6 (Hf (z:=1) (f:=(PV.int .i64)) j d),sp 1 (Bz .i64 a)]
def AjB(i:j<l.length)(d:l[j]?=some y)(n:l.length<1000)(h:x≠y)(a:LL aX 0 [(0,some (slF 1 (l.map (PV.int .i64)))),(1,some (I x)),(7,some (N l.length)),(8,some (N (j+1)))] [] e A G):LL aX 0 [(0,some (slF 1 (l.map (PV.int .i64)))),(1,some (I x)),(7,some (N l.length)),(8,some (N j))] [] e A G:=
 BC [0,1,7,8] [sp 0 (AZ .i64 (show(j:Int) < (l.length:Int) by omega)),sp 6 (Hf (z:=1) (f:=(PV.int .i64)) j d),sp 1 (Bb .i64 h),sp 1 (AO j 1 am)] a
def Bz1(a:¬j<l.length):LL aX 0 [(0,some (slF 1 (l.map (PV.int .i64)))),(1,some (I x)),(7,some (N l.length)),(8,some (N j))] [] (.exit 0) [] []:=
 Bw [] [sp 0 (Bh .i64 (show ¬(j:Int) < (l.length:Int) by omega))]
section
variable{l:List (List UInt8)}{x:(List UInt8)}
def AjC(h:EvE 280 [slF 1 (l.map PV.str),.str x] (I z)):EvE 247 [slF 1 (l.map PV.str),.str x] (.bool (decide (z>=0))):=
 rule BWG [st 3 (oC h)]
def Bz0(L:LL MO 0 [(0,some (slF 1 (l.map PV.str))),(1,some (.str x)),(7,some (N l.length)),(8,some (N 0))] [] (.exit 0) [] []):EvE 280 [slF 1 (l.map PV.str),.str x] (I (-1)):=
 rule AZI [sp 2 (JE (z:=1) PV.str l),sl 1 [0,1,7,8] L]
def BxZ(L:LL MO 0 [(0,some (slF 1 (l.map PV.str))),(1,some (.str x)),(7,some (N l.length)),(8,some (N 0))] [] .ret [(4,some (N k))] []):EvE 280 [slF 1 (l.map PV.str),.str x] (N k):=
 rule AZI [sp 2 (JE (z:=1) PV.str l),sl 1 [0,1,7,8] L]
def BxY{y:(List UInt8)}(i:j<l.length)(d:l[j]?=some y)(h:l.length<1000)(a:x=y):LL MO 0 [(0,some (slF 1 (l.map PV.str))),(1,some (.str x)),(7,some (N l.length)),(8,some (N j))] [] .ret [(4,some (N j))] []:=
 Bw [4] [sp 0 (AZ .i64 (show(j:Int) < (l.length:Int) by omega)),sp 6 (Hf (z:=1) (f:=PV.str) j d),sp 1 (H7 a)]
def AjA{y:(List UInt8)}(i:j<l.length)(d:l[j]?=some y)(n:l.length<1000)(h:x≠y)(a:LL MO 0 [(0,some (slF 1 (l.map PV.str))),(1,some (.str x)),(7,some (N l.length)),(8,some (N (j+1)))] [] e A G):LL MO 0 [(0,some (slF 1 (l.map PV.str))),(1,some (.str x)),(7,some (N l.length)),(8,some (N j))] [] e A G:=
 BC [0,1,7,8] [sp 0 (AZ .i64 (show(j:Int) < (l.length:Int) by omega)),sp 6 (Hf (z:=1) (f:=PV.str) j d),sp 1 (Ha h),sp 1 (AO j 1 am)] a
def BxX(a:¬j<l.length):LL MO 0 [(0,some (slF 1 (l.map PV.str))),(1,some (.str x)),(7,some (N l.length)),(8,some (N j))] [] (.exit 0) [] []:=
 Bw [] [sp 0 (Bh .i64 (show ¬(j:Int) < (l.length:Int) by omega))]
end
def BUW(h:EvE 244 [slF 1 (l.map (PV.int .i64)),I x] (.bool b)):EvE 243 [I x,.vptr (slF 1 (l.map (PV.int .i64)))] (.bool b):=
 rule BWJ [st 3 (oC h)]
def BUV{l:List (List UInt8)}{x:List UInt8}(h:EvE 247 [slF 1 (l.map PV.str),.str x] (.bool b)):EvE 246 [.str x,.vptr (slF 1 (l.map PV.str))] (.bool b):=
 rule BWH [st 3 (oC h)]
def BzC:EvE 245 [I 0,.vptr (.func g [] cs)] (.bool true):=
 rule AZN []
def BzB(h:Bt pur run (.w .DC) [.func g [] cs,I x] [] [some (.bool b)] [])(a:x≠0)(d:Dq (.ld 1 false) [.vptr (.func g [] cs)] []=some [some (.func g [] cs)]):EvE 245 [I x,.vptr (.func g [] cs)] (.bool b):=
 rule AZN [sp 2 (Bb .i64 a),sg 1 (Q d),sg 1 h]
section
variable(H:Dq (.ld 1 false) [.vptr (.func f [] cs)] []=some [some (.func f [] cs)])
include H
theorem BzN(a:Dq (.ld 1 false) [.vptr (.func g [] F)] []=some [some (.func g [] F)])(h:Bt pur run (.w .DC) [.func f [] cs,.str s] [] [some (.bool true)] []):EvE 169 [.str s,.vptr (.func f [] cs),.vptr (.func g [] F)] (.bool true):=
 rule AZR [st 1 (Q H),st 1 h]
theorem BzM(d:Dq (.ld 1 false) [.vptr (.func g [] F)] []=some [some (.func g [] F)])(h:Bt pur run (.w .DC) [.func f [] cs,.str s] [] [some (.bool false)] [])(a:Bt pur run (.w .DC) [.func g [] F,.str s] [] [some (.bool b)] []):EvE 169 [.str s,.vptr (.func f [] cs),.vptr (.func g [] F)] (.bool b):=
 rule AZR [st 1 (Q H),st 1 h,sg 1 (Q d),sg 1 a]
end
def BzP:EvE 168 [.str []] (.bool true):=
 rule AZS []
def BzO:EvE 168 [.str (c::t)] (.bool false):=
 rule AZS []
def AjF(h:x>=20):EvE 147 [I x] (.bool (decide (x<=29))):=
 rule AZU [sp 2 (Gi .i64 h)]
def AjE(h:¬x>=20):EvE 147 [I x] (.bool false):=
 rule AZU [sp 2 (Im .i64 h)]
def BxW(h:x>=12):EvE 59 [I x] (.bool (decide (x<=19))):=
 rule BW7 [sp 2 (Gi .i64 h)]
def BxV(h:¬x>=12):EvE 59 [I x] (.bool false):=
 rule BW7 [sp 2 (Im .i64 h)]
def BzR:EvE 166 [I 9] (.bool true):=
 rule AZT []
def BzQ(h:x≠9):EvE 166 [I x] (.bool (x==10)):=
 rule AZT [sp 2 (Bb .i64 h)]
def BzI:EvE 171 [I 20] (.bool true):=
 rule yV []
def BzH:EvE 171 [I 21] (.bool true):=
 rule yV []
def BzG(h:x≠20)(a:x≠21):EvE 171 [I x] (.bool (x==22)):=
 rule yV [sp 2 (Bb .i64 h),sq 2 (Bb .i64 a)]
end
end
end Go.Abs.Z

namespace Go.Abs.Z
open Go.Proofs Go.RowKit
def Cl(s:List UInt8):Prop:=∀c∈s,c≠35
def bX{p:UInt8->Bool}{l:List UInt8}(h:Dc p l=l.length):l.all p=true:=by
 have:=Qr p l
 rwa [h,FJ] at this
def UC{p:UInt8->Bool}{l:List UInt8}(h:l.all p=true)(a:p 35=false):Cl l:=λc b e=>by
 have:=Au.1 h c b;rw[e,a] at this;cases this
def Fy:Cl []:=λc h=>by cases h
def EW{a b:List UInt8}(h:Cl a)(e:Cl b):Cl (a++b):=λc d=>(Bv.1 d).elim (h c) (e c)
def e242(c:UInt8):E 242 [.int .u8 (c.toNat:Int)] [] (.bool (woB c)) []:=by
 unfold woB;have a:=xU c;have b:=j4 c;cases d:leB c with
 |true=>rw[d] at a;exact BzF a
 |false=>
  rw[d] at a;cases f:diB c with
  |true=>rw[f] at b;exact BzE a b
  |false=>
   rw[f] at b;have:=BzD a b
   have e:((c.toNat:Int)==95)=(c==95):=by
    by_cases h:c=95
    ·subst h;rfl
    ·rw[beq_eq_false_iff_ne.2 h,beq_eq_false_iff_ne];exact λx=>h ((u8i c 95).1 x)
   rw[e] at this;simpa using this
def BUM(s:List UInt8):∃b,E 163 [.str s] [] (.bool b) []/\(b=true->Cl s):=by
 cases s with
 |nil=>exact⟨_,BzW,nofun⟩
 |cons c t=>
  by_cases h:(((c::t).length:Nat):Int) > 16
  ·exact⟨_,BzV h,nofun⟩
  ·have a:=xU c;have d:=BVH (c::t);cases f:leB c with
   |false=>rw[f] at a;exact⟨_,BzU h a,nofun⟩
   |true=>
    rw[f] at a;cases e:kwL.contains (c::t) with
    |true=>rw[e] at d;exact⟨_,BzT h a d,nofun⟩
    |false=>
     rw[e] at d;have g:=pE woB rfl e242 (c::t) am 0 (Ca _)
     refine⟨_,BzS h a d g,λi=>?_⟩
     have:=beq_iff_eq.1 i;rw[DZ] at this;exact UC (p:=woB) (bX am) (by decide)
def bI(s:List UInt8)(d:s.length<1000):∀(n j:Nat) (z:Int),j+n=s.length->∃c,LL RP 0 [(4,some (I z)),(22,some (slF 1 (s.map λb=>PV.int .u8 b.toNat))),(23,some (N s.length)),(24,some (N j))] [] (.exit 0) [(4,some (I c))] []
 |0,j,z,h=>⟨z,Bz5 am⟩
 |n+1,j,z,h=>by
  obtain⟨c,e⟩:=bI s d n (j+1) _ am
  exact⟨c,Bz6 am d (Af am) rfl rfl rfl rfl e⟩
def BUH(s:List UInt8):∃z b,E 248 [.str s] [] (.tuple [I z,.bool b]) []/\(b=true->Cl s/\s≠[]):=by
 cases s with
 |nil=>exact⟨_,_,BzA,nofun⟩
 |cons c t=>
  by_cases h:(((c::t).length:Nat):Int) > 9
  ·exact⟨_,_,Bz9 h,nofun⟩
  ·have d:=pE diB rfl j4 (c::t) am 0 (Ca _)
   by_cases a:((0+Dc diB ((c::t).drop 0):Nat):Int) < (((c::t).length:Nat):Int)
   ·exact⟨_,_,Bz8 h d a,nofun⟩
   ·obtain⟨z,e⟩:=bI (c::t) am (c::t).length 0 0 am
    refine⟨z,_,Bz7 h d a rfl e,λ_=>⟨?_,by simp⟩⟩
    rw[DZ] at a;have:=J8 diB (c::t);exact UC (p:=diB) (bX am) (by decide)
def BUK(s:List UInt8):∃b,E 170 [.str s] [] (.bool b) []/\(b=true->Cl s):=by
 obtain⟨z,b,h,f⟩:=BUH s;cases b with
 |false=>exact⟨_,BzL h,nofun⟩
 |true=>
  obtain⟨e,d⟩:=f rfl;by_cases a:s=[48]
  ·subst a;exact⟨_,BzK h,λ_=>e⟩
  ·cases s with
   |nil=>exact absurd rfl d
   |cons c t=>exact⟨_,BzJ h a,λ_=>e⟩
def BUL(s:List UInt8):∃b,E 168 [.str s] [] (.bool b) []/\(b=true->Cl s):=by
 cases s with
 |nil=>exact⟨_,BzP,λ_=>Fy⟩
 |cons c t=>exact⟨_,BzO,nofun⟩
def Xl(l:List Int)(x:Int)(b:l.length<1000):∀(n j:Nat),j+n=l.length->(∃k:Nat,LL aX 0 [(0,some (slF 1 (l.map (PV.int .i64)))),(1,some (I x)),(7,some (N l.length)),(8,some (N j))] [] .ret [(4,some (N k))] []) \/
  LL aX 0 [(0,some (slF 1 (l.map (PV.int .i64)))),(1,some (I x)),(7,some (N l.length)),(8,some (N j))] [] (.exit 0) [] []
 |0,j,h=>.inr (Bz1 am)
 |n+1,j,h=>by
  have g:=Af (show j<l.length by omega)
  by_cases d:x=l[j]
  ·exact .inl ⟨j,Bz2 am g b d⟩
  ·exact(Xl l x b n (j+1) am).imp (λ⟨k,c⟩=>⟨k,AjB am g b d c⟩) (λc=>AjB am g b d c)
def BUJ(l:List Int)(x:Int)(a:l.length<1000):∃b,E 244 [slF 1 (l.map (PV.int .i64)),I x] [] (.bool b) []:=by
 rcases Xl l x a l.length 0 am with⟨k,h⟩ | h
 ·exact⟨_,AjD (Bz3 h)⟩
 ·exact⟨_,AjD (Bz4 h)⟩
def Xk(l:List (List UInt8))(x:List UInt8)(b:l.length<1000):∀(n j:Nat),j+n=l.length->(x∈l/\∃k:Nat,LL MO 0 [(0,some (slF 1 (l.map PV.str))),(1,some (.str x)),(7,some (N l.length)),(8,some (N j))] [] .ret [(4,some (N k))] []) \/
  LL MO 0 [(0,some (slF 1 (l.map PV.str))),(1,some (.str x)),(7,some (N l.length)),(8,some (N j))] [] (.exit 0) [] []
 |0,j,h=>.inr (BxX am)
 |n+1,j,h=>by
  have g:=Af (show j<l.length by omega)
  by_cases c:x=l[j]
  ·exact .inl ⟨c▸Cg _,j,BxY am g b c⟩
  ·exact(Xk l x b n (j+1) am).imp (λ⟨m,k,d⟩=>⟨m,k,AjA am g b c d⟩) (λd=>AjA am g b c d)
def BUI(l:List (List UInt8))(x:List UInt8)(a:l.length<1000):∃b,E 247 [slF 1 (l.map PV.str),.str x] [] (.bool b) []/\(b=true->x∈l):=by
 rcases Xk l x a l.length 0 am with⟨m,k,h⟩ | h
 ·exact⟨_,AjC (BxZ h),λ_=>m⟩
 ·exact⟨_,AjC (Bz0 h),λh=>by simp at h⟩
structure Fu(v:PV):Prop where
 fn:∃f cs,v=.func f [] cs
 dis:v.Ag=v
 free:v.free=true
 flat:v.flat=true
def Fu.ld{v:PV}(h:Fu v)(a:Sto):Dq (.ld 1 false) [.vptr v] a=some [some v]:=Xe (by obtain⟨f,cs,rfl⟩:=h.fn;rfl) h.free h.dis
def Kt(v:PV):Prop:=Fu v/\∀(x:Int) (a:Sto),∃b,Bt pur run (.w .DC) [v,I x] a [some (.bool b)] a
def Tt(v:PV):Prop:=Fu v/\∀(s:List UInt8) (a:Sto),∃b,Bt pur run (.w .DC) [v,.str s] a [some (.bool b)] a/\(b=true->Cl s)
def DC{f:FuncId}{x:PV}{cs:List PV}{b:Bool}(h:E f (x::cs) [] (.bool b) [])(g:Fu (.func f [] cs))(e:pur f=true)(a:x.Ag=x/\x.free=true/\x.flat=true)(d:cs.map PV.Ag=cs/\cs.all PV.flat=true)(c:Sto):Bt pur run (.w .DC) [.func f [] cs,x] c [some (.bool b)] c:=
 KE h e (by simp[a,d.1]) (by simp[a]) (by simp[a,d.2]) rfl rfl
def JW(f:FuncId)(cs:List PV)(h:cs.all PV.KO=true):Fu (.func f [] cs):=⟨⟨_,_,rfl⟩,rfl,rfl,by show(true&&cs.all PV.KO)=true;rw[h];rfl⟩
def kt0{f:FuncId}(h:∀x,∃b,E f [I x] [] (.bool b) [])(a:pur f=true):Kt (.func f [] []):=⟨JW f [] rfl,λx c=>by
 obtain⟨b,h⟩:=h x;exact⟨b,DC h (JW f [] rfl) a ⟨rfl,rfl,rfl⟩ ⟨rfl,rfl⟩ c⟩⟩
def tt0{f:FuncId}(h:∀s,∃b,E f [.str s] [] (.bool b) []/\(b=true->Cl s))(d:pur f=true):Tt (.func f [] []):=⟨JW f [] rfl,λx c=>by
 obtain⟨b,h,a⟩:=h x;exact⟨b,DC h (JW f [] rfl) d ⟨rfl,rfl,rfl⟩ ⟨rfl,rfl⟩ c,a⟩⟩
def k147:Kt (.func 147 [] []):=kt0 (λx=>by exact if h:x>=20 then⟨_,AjF h⟩ else⟨_,AjE h⟩) rfl
def k59:Kt (.func 59 [] []):=kt0 (λx=>by exact if h:x>=12 then⟨_,BxW h⟩ else⟨_,BxV h⟩) rfl
def k166:Kt (.func 166 [] []):=kt0 (λx=>by
 by_cases h:x=9
 ·subst h;exact⟨_,BzR⟩
 ·exact⟨_,BzQ h⟩) rfl
def k171:Kt (.func 171 [] []):=kt0 (λx=>by
 by_cases h:x=20
 ·subst h;exact⟨_,BzI⟩
 ·by_cases a:x=21
  ·subst a;exact⟨_,BzH⟩
  ·exact⟨_,BzG h a⟩) rfl
def k243{l:List Int}(c:l.length<1000):Kt (.func 243 [] [.vptr (.slice false 1 (l.map (PV.int .i64)))]):=⟨JW _ _ rfl,λx a=>by
 obtain⟨b,h⟩:=BUJ l x c;exact⟨b,DC (BUW h) (JW _ _ rfl) rfl ⟨rfl,rfl,rfl⟩ ⟨rfl,rfl⟩ a⟩⟩
def k245{g:PV}(a:Kt g):Kt (.func 245 [] [.vptr g]):=⟨JW _ _ rfl,λx d=>by
 obtain⟨f,cs,rfl⟩:=a.1.fn
 have e:∃b,E 245 [I x,.vptr (.func f [] cs)] [] (.bool b) []:=by
  by_cases h:x=0
  ·subst h;exact⟨_,BzC⟩
  ·obtain⟨b,c⟩:=a.2 x [];exact⟨b,BzB c h (a.1.ld [])⟩
 obtain⟨b,h⟩:=e;exact⟨b,DC h (JW _ _ rfl) rfl ⟨rfl,rfl,rfl⟩ ⟨rfl,rfl⟩ d⟩⟩
def CqA{l:List (List UInt8)}(c:l.length<1000)(d:l.all (λs=>s.all (· != 35))=true):Tt (.func 246 [] [.vptr (.slice false 1 (l.map PV.str))]):=⟨JW _ _ rfl,λx f=>by
 obtain⟨b,h,a⟩:=BUI l x c;exact⟨b,DC (BUV h) (JW _ _ rfl) rfl ⟨rfl,rfl,rfl⟩ ⟨rfl,rfl⟩ f,λe=>UC (Au.1 d x (a e)) (by decide)⟩⟩
def CqB{f g:PV}(d:Tt f)(c:Tt g):Tt (.func 169 [] [.vptr f,.vptr g]):=⟨JW _ _ rfl,λx m=>by
 obtain⟨f,cs,rfl⟩:=d.1.fn;obtain⟨g,k,rfl⟩:=c.1.fn
 have e:∃b,E 169 [.str x,.vptr (.func f [] cs),.vptr (.func g [] k)] [] (.bool b) []/\(b=true->Cl x):=by
  obtain⟨b,a,l⟩:=d.2 x [];cases b with
  |true=>exact⟨_,BzN (d.1.ld []) (c.1.ld []) a,l⟩
  |false=>
   obtain⟨b,i,j⟩:=c.2 x [];exact⟨_,BzM (d.1.ld []) (c.1.ld []) a i,j⟩
 obtain⟨b,h,a⟩:=e;exact⟨b,DC h (JW _ _ rfl) rfl ⟨rfl,rfl,rfl⟩ ⟨rfl,rfl⟩ m,a⟩⟩
def JV:List PV->Option (List Int)
 |[]=>some []
 |.int .i64 x::r=>(JV r).map (x::·)
 |_=>none
def TY:∀(es:List PV) (l:List Int),JV es=some l->es=l.map (PV.int .i64)
 |[],l,h=>by cases h;rfl
 |e::es,l,h=>by
  unfold JV at h
  split at h
  ·rename_i b;cases b
  ·rename_i x r b;cases b;obtain⟨r',c,rfl⟩:=Ac.1 h;rw[TY _ r' c];rfl
  ·cases h
def ktB:Nat->PV->Bool
 |n+1,.func f [] []=>f==147||f==59||f==166||f==171
 |n+1,.func f [] [.vptr g]=>(f==243&&match g with
   |.slice false 1 es=>match JV es with
    |some l=>decide (l.length<1000)
    |none=>false
   |_=>false)||(f==245&&ktB n g)
 |_,_=>false
def wY(n:Nat)(v:PV)(h:ktB n v=true):Kt v:=by
 induction n generalizing v with
 |zero=>cases h
 |succ n c=>
  unfold ktB at h
  split at h
  ·simp only[Dk,beq_iff_eq] at h;rcases h with((rfl | rfl) | rfl) | rfl
   ·exact k147
   ·exact k59
   ·exact k166
   ·exact k171
  ·rename_i f g e;cases e;rcases Bool.or_eq_true_iff.1 h with h | h
   ·obtain⟨b,a⟩:=Ce.1 h;rw[beq_iff_eq] at b;subst b
    split at a
    ·split at a
     ·rename_i l d;rw[TY _ _ d];exact k243 (of_decide_eq_true a)
     ·cases a
    ·cases a
   ·obtain⟨b,a⟩:=Ce.1 h;rw[beq_iff_eq] at b;subst b;exact k245 (c g a)
  ·cases h
def ttB:Nat->PV->Bool
 |n+1,.func f [] []=>f==163||f==168||f==170
 |n+1,.func f [] [.vptr g]=>f==246&&match g with
   |.slice false 1 es=>match strsOf es with
    |some l=>decide (l.length<1000)&&l.all (λs=>s.all (· != 35))
    |none=>false
   |_=>false
 |n+1,.func f [] [.vptr g,.vptr h]=>f==169&&ttB n g&&ttB n h
 |_,_=>false
def iK(n:Nat)(v:PV)(h:ttB n v=true):Tt v:=by
 induction n generalizing v with
 |zero=>cases h
 |succ n e=>
  unfold ttB at h
  split at h
  ·simp only[Dk,beq_iff_eq] at h;rcases h with(rfl | rfl) | rfl
   ·exact tt0 BUM rfl
   ·exact tt0 BUL rfl
   ·exact tt0 BUK rfl
  ·rename_i f g c;cases c;obtain⟨d,a⟩:=Ce.1 h;rw[beq_iff_eq] at d;subst d
   split at a
   ·split at a
    ·rename_i l j;rw[OB _ _ j];obtain⟨b,i⟩:=Ce.1 a;exact CqA (of_decide_eq_true b) i
    ·cases a
   ·cases a
  ·rename_i f g k c;cases c;simp only[Aj,beq_iff_eq] at h;obtain⟨⟨rfl,a⟩,b⟩:=h;exact CqB (e _ a) (e _ b)
  ·cases h
def ndK(k:Int):Nat:=
 if k=4\/k=7\/k=8\/k=17\/k=18\/k=22\/k=23\/k=28 then 1 else if k=12\/k=13\/k=15\/k=21\/k=29 then 2 else if k=5\/k=14\/k=16 then 3 else 0
def enB(k:Int):PV->Bool
 |.agg [F,K,G,.int .i64 m]=>ttB 3 F&&(match K with
   |.nils=>(match G with
    |.nilf=>ndK k==0
    |G=>ktB 4 G&&ndK k==0)
   |.slice false 1 ks=>ks.all (ktB 4)&&(match G with
    |.nilf=>decide (ndK k<=ks.length)&&decide (ks.length<1000)
    |G=>false)
   |_=>false)
 |_=>false
inductive En(k:Int):PV->Prop
 |none {F:PV} {m:Int} (h:Tt F) (h2:ndK k=0):En k (.agg [F,.nils,.nilf,I m])
 |list {F G:PV} {m:Int} (h:Tt F) (h2:ndK k=0) (hg:Kt G):En k (.agg [F,.nils,G,I m])
 |kids {F:PV} {ks:List PV} {m:Int} (h:Tt F) (h2:ndK k<=ks.length) (hl:ks.length<1000) (hk:∀g∈ks,Kt g):En k (.agg [F,.slice false 1 ks,.nilf,I m])
def AUZ{k:Int}{v:PV}(h:enB k v=true):En k v:=by
 unfold enB at h
 split at h
 ·obtain⟨c,a⟩:=Ce.1 h
  split at a
  ·split at a
   ·exact .none (iK _ _ c) (beq_iff_eq.1 a)
   ·obtain⟨d,b⟩:=Ce.1 a;exact .list (iK _ _ c) (beq_iff_eq.1 b) (wY _ _ d)
  ·obtain⟨d,b⟩:=Ce.1 a
   split at b
   ·obtain⟨i,f⟩:=Ce.1 b;exact .kids (iK _ _ c) (of_decide_eq_true i) (of_decide_eq_true f) λg e=>wY _ _ (Au.1 d g e)
   ·cases b
  ·cases a
 ·cases h
noncomputable def shM:PV:=((run 30 118 [] []).getD (.nils,[])).1
def e118:E 118 [] [] shM []:=FC 40 λn a=>by
 obtain⟨m,rfl⟩:∃m,n=m+40:=⟨n - 40,am⟩
 kernel_rfl
end Go.Abs.Z

namespace Go.Abs.Z
noncomputable section
open Go.Proofs Go.RowKit
def Qc:Rn 120 MC:=rn
section
variable{f g:FuncId}{cs ks k:List PV}{m:Int}{T U:Tr}{j:Nat}{e:CE}{z:FF}{A:Sto}
def qR{K G:PV}(a:Dq (.ld 1 false) [.vptr (.func f [] cs)] []=some [some (.func f [] cs)])(h:Bt pur run (.w .DC) [.func f [] cs,.str T.text] [] [some (.bool false)] []):EvE 120 [.agg [.func f [] cs,K,G,I m],T.pv] (.bool false):=
 rule Qc [sp 1 (BQ T),st 2 (Q a),sp 0 (Er T),st 1 h]
section
variable(p:Dq (.ld 1 false) [.vptr (.func f [] cs)] []=some [some (.func f [] cs)])(h:Bt pur run (.w .DC) [.func f [] cs,.str T.text] [] [some (.bool true)] [])(w:T.wf)
include p h w
def AkE:List Stp:=[sp 1 (BQ T),st 2 (Q p),sp 0 (Er T),st 1 h,sq 6 (DI T),sg 0 (Q (EE T)),sq 0 (EZ w)]
theorem Bj0(a:(T.kids.length:Int)≠0):EvE 120 [.agg [.func f [] cs,.nils,.nilf,I m],T.pv] (.bool false):=
 rule Qc (AkE p h w++[sq 3 (C8 .i64 a)])
theorem BzZ(a:(T.kids.length:Int)≠(ks.length:Int)):EvE 120 [.agg [.func f [] cs,slF 1 ks,.nilf,I m],T.pv] (.bool false):=
 rule Qc (AkE p h w++[sq 3 (C8 .i64 a)])
end
def BzY(a:Dq (.ld 1 false) [.vptr (.func g [] k)] []=some [some (.func g [] k)])(c:Dq (.ld 1 false) [.vptr (.func f [] cs)] []=some [some (.func f [] cs)])(h:Bt pur run (.w .DC) [.func f [] cs,.str T.text] [] [some (.bool true)] [])(w:T.wf)(b:(T.kids.length:Int) < m):EvE 120 [.agg [.func f [] cs,.nils,.func g [] k,I m],T.pv] (.bool false):=
 rule Qc [sp 1 (BQ T),st 2 (Q c),sp 0 (Er T),st 1 h,sg 3 (Q a),sg 13 (Q a),sq 2 (DI T),sg 0 (Q (EE T)),sq 0 (EZ w),sq 2 (AZ .i64 b)]
def AJO(b:Dq (.ld 1 false) [.vptr (.func f [] cs)] []=some [some (.func f [] cs)])(h:Bt pur run (.w .DC) [.func f [] cs,.str T.text] [] [some (.bool true)] [])(w:T.wf)(a:(T.kids.length:Int)=0)(L:LL MC 0 [(2,some (.vptr (.agg [.func f [] cs,.nils,.nilf,I m]))),(42,some T.kp),(43,some (N T.kids.length)),(44,some (N 0))] [] (.exit 0) [] []):EvE 120 [.agg [.func f [] cs,.nils,.nilf,I m],T.pv] (.bool true):=
 rule Qc [sp 1 (BQ T),st 2 (Q b),sp 0 (Er T),st 1 h,sq 6 (DI T),sg 0 (Q (EE T)),sq 0 (EZ w),sq 3 (Dr .i64 a),sp 16 (DI T),st 0 (Q (EE T)),sp 0 (EZ w),sl 1 [2,42,43,44] L]
def AJN(a:¬j<T.kids.length):LL MC 0 [(2,some (.vptr (.agg [.func f [] cs,.nils,.nilf,I m]))),(42,some T.kp),(43,some (N T.kids.length)),(44,some (N j))] [] (.exit 0) [] []:=
 Bw [] [sp 0 (Bh .i64 (show ¬(j:Int) < (T.kids.length:Int) by omega))]
section
variable(x:Dq (.ld 1 false) [.vptr (.func g [] k)] []=some [some (.func g [] k)])(p:Dq (.ld 1 false) [.vptr (.func f [] cs)] []=some [some (.func f [] cs)])(h:Bt pur run (.w .DC) [.func f [] cs,.str T.text] [] [some (.bool true)] [])(w:T.wf)(r:¬(T.kids.length:Int) < m)
include x p h w r
def AkD:List Stp:=[sp 1 (BQ T),st 2 (Q p),sp 0 (Er T),st 1 h,sg 3 (Q x),sg 13 (Q x),sq 2 (DI T),sg 0 (Q (EE T)),sq 0 (EZ w),sq 2 (Bh .i64 r),sp 3 (DI T),st 0 (Q (EE T)),sp 0 (EZ w)]
theorem AJK(L:LL MC 0 [(2,some (.vptr (.agg [.func f [] cs,.nils,.func g [] k,I m]))),(42,some T.kp),(43,some (N T.kids.length)),(44,some (N 0))] [] (.exit 0) [] []):EvE 120 [.agg [.func f [] cs,.nils,.func g [] k,I m],T.pv] (.bool true):=
 rule Qc (AkD x p h w r++[sl 1 [2,42,43,44] L])
theorem AJM(L:LL MC 0 [(2,some (.vptr (.agg [.func f [] cs,.nils,.func g [] k,I m]))),(42,some T.kp),(43,some (N T.kids.length)),(44,some (N 0))] [] .ret [(4,some (.bool false))] []):EvE 120 [.agg [.func f [] cs,.nils,.func g [] k,I m],T.pv] (.bool false):=
 rule Qc (AkD x p h w r++[sl 1 [2,42,43,44] L])
end
def AJJ(a:Dq (.ld 1 false) [.vptr (.func g [] k)] []=some [some (.func g [] k)])(b:¬j<T.kids.length):LL MC 0 [(2,some (.vptr (.agg [.func f [] cs,.nils,.func g [] k,I m]))),(42,some T.kp),(43,some (N T.kids.length)),(44,some (N j))] [] (.exit 0) [] []:=
 Bw [] [sp 0 (Bh .i64 (show ¬(j:Int) < (T.kids.length:Int) by omega))]
section
variable(x:Dq (.ld 1 false) [.vptr (.func g [] k)] []=some [some (.func g [] k)])(w:T.wf)
include x w
theorem AJL(b:j<T.kids.length)(a:T.kids[j]?=some U)(h:Bt pur run (.w .DC) [.func g [] k,I U.kind] [] [some (.bool false)] []):LL MC 0 [(2,some (.vptr (.agg [.func f [] cs,.nils,.func g [] k,I m]))),(42,some T.kp),(43,some (N T.kids.length)),(44,some (N j))] [] .ret [(4,some (.bool false))] []:=
 Bw [4] [sp 0 (AZ .i64 (show(j:Int) < (T.kids.length:Int) by omega)),sp 2 (EL j w a),st 0 (Q (AL U)),sp 2 (BD U),st 1 (Q x),sp 5 (BX U),st 1 h]
theorem qV(c:j<T.kids.length)(b:T.kids[j]?=some U)(h:Bt pur run (.w .DC) [.func g [] k,I U.kind] [] [some (.bool true)] [])(l:j<2000000000)(a:LL MC 0 [(2,some (.vptr (.agg [.func f [] cs,.nils,.func g [] k,I m]))),(42,some T.kp),(43,some (N T.kids.length)),(44,some (N (j+1)))] [] e z A):LL MC 0 [(2,some (.vptr (.agg [.func f [] cs,.nils,.func g [] k,I m]))),(42,some T.kp),(43,some (N T.kids.length)),(44,some (N j))] [] e z A:=
 BC [2,42,43,44] [sp 0 (AZ .i64 (show(j:Int) < (T.kids.length:Int) by omega)),sp 2 (EL j w b),st 0 (Q (AL U)),sp 2 (BD U),st 1 (Q x),sp 5 (BX U),st 1 h,sp 2 (AO j 1 l)] a
end
section
variable(p:Dq (.ld 1 false) [.vptr (.func f [] cs)] []=some [some (.func f [] cs)])(h:Bt pur run (.w .DC) [.func f [] cs,.str T.text] [] [some (.bool true)] [])(w:T.wf)(r:(T.kids.length:Int)=(ks.length:Int))
include p h w r
def AkC:List Stp:=[sp 1 (BQ T),st 2 (Q p),sp 0 (Er T),st 1 h,sq 6 (DI T),sg 0 (Q (EE T)),sq 0 (EZ w),sq 3 (Dr .i64 r),sp 16 (DI T),st 0 (Q (EE T)),sp 0 (EZ w)]
theorem AJG(L:LL MC 0 [(2,some (.vptr (.agg [.func f [] cs,slF 1 ks,.nilf,I m]))),(42,some T.kp),(43,some (N T.kids.length)),(44,some (N 0))] [] (.exit 0) [] []):EvE 120 [.agg [.func f [] cs,slF 1 ks,.nilf,I m],T.pv] (.bool true):=
 rule Qc (AkC p h w r++[sl 1 [2,42,43,44] L])
theorem AJI(L:LL MC 0 [(2,some (.vptr (.agg [.func f [] cs,slF 1 ks,.nilf,I m]))),(42,some T.kp),(43,some (N T.kids.length)),(44,some (N 0))] [] .ret [(4,some (.bool false))] []):EvE 120 [.agg [.func f [] cs,slF 1 ks,.nilf,I m],T.pv] (.bool false):=
 rule Qc (AkC p h w r++[sl 1 [2,42,43,44] L])
end
def AJF(a:¬j<T.kids.length):LL MC 0 [(2,some (.vptr (.agg [.func f [] cs,slF 1 ks,.nilf,I m]))),(42,some T.kp),(43,some (N T.kids.length)),(44,some (N j))] [] (.exit 0) [] []:=
 Bw [] [sp 0 (Bh .i64 (show ¬(j:Int) < (T.kids.length:Int) by omega))]
def AJH(w:T.wf)(d:j<T.kids.length)(c:T.kids[j]?=some U)(b:ks[j]?=some (.func g [] k))(a:Dq (.ld 1 false) [.vptr (.func g [] k)] []=some [some (.func g [] k)])(h:Bt pur run (.w .DC) [.func g [] k,I U.kind] [] [some (.bool false)] []):LL MC 0 [(2,some (.vptr (.agg [.func f [] cs,slF 1 ks,.nilf,I m]))),(42,some T.kp),(43,some (N T.kids.length)),(44,some (N j))] [] .ret [(4,some (.bool false))] []:=
 Bw [4] [sp 0 (AZ .i64 (show(j:Int) < (T.kids.length:Int) by omega)),sp 2 (EL j w c),st 0 (Q (AL U)),sp 2 (BD U),sp 9 (Nb false 1 j ks _ b),st 0 (Q a),sp 2 (BX U),st 1 h]
def qU(w:T.wf)(i:j<T.kids.length)(c:T.kids[j]?=some U)(d:ks[j]?=some (.func g [] k))(b:Dq (.ld 1 false) [.vptr (.func g [] k)] []=some [some (.func g [] k)])(h:Bt pur run (.w .DC) [.func g [] k,I U.kind] [] [some (.bool true)] [])(l:j<2000000000)(a:LL MC 0 [(2,some (.vptr (.agg [.func f [] cs,slF 1 ks,.nilf,I m]))),(42,some T.kp),(43,some (N T.kids.length)),(44,some (N (j+1)))] [] e z A):LL MC 0 [(2,some (.vptr (.agg [.func f [] cs,slF 1 ks,.nilf,I m]))),(42,some T.kp),(43,some (N T.kids.length)),(44,some (N j))] [] e z A:=
 BC [2,42,43,44] [sp 0 (AZ .i64 (show(j:Int) < (T.kids.length:Int) by omega)),sp 2 (EL j w c),st 0 (Q (AL U)),sp 2 (BD U),sp 9 (Nb false 1 j ks _ d),st 0 (Q b),sp 2 (BX U),st 1 h,sp 2 (AO j 1 l)] a
end
end
end Go.Abs.Z
