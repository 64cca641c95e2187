/- A part of the proof: VCE VX VY VZ VAA VAB VBA VBB VAC VAD VBC VAE VCF VCG ZG D29 GR. -/
import Derived.Test.YtgkkkgbknfhbaaaGreatDoorKbe
import Derived.Test.YtgkkkgbknfhbaaaGreatDoorKbd
import Derived.Test.YtgkkkgbknfhbaaaGreatDoorKbc
import Derived.Test.YtgkkkgbknfhbaaaGreatDoorKau
import Derived.Test.YtgkkkgbknfhbaaaGreatDoorKay
import Derived.Test.YtgkkkgbknfhbaaaGreatDoorKba
import Derived.Test.YtgkkkgbknfhbaaaGreatDoorKax

set_option linter.all false
namespace Go.Abs.Z
open Go.Proofs Go.RowKit
def AxV{z x k v:PV}{i b:Bool}(h:IX z true i x k=some (.tuple [v,.bool b])):IX z false i x k=some v:=by
 revert h
 unfold IX;split
 ·split
  ·split
   ·intro h;cases h;rfl
   ·intro h;cases h
  ·intro h;cases h
 ·split
  ·split
   ·split
    ·split
     ·intro h;cases h;rfl
     ·intro h;cases h
    ·intro h;cases h;rfl
   ·intro h;cases h
  ·intro h;cases h
 ·intro h;cases h
def AUX{k:Int}{v:PV}(h:En k v):∃G b,AQ (.fld 2 1 false) [v]=some [some G]/\AQ (.bin .neq 2) [G,.nilf]=some [some (.bool b)]:=by
 cases h with
 |none _ _=>exact⟨_,_,rfl,rfl⟩
 |@list F G m _ _ a=>
  obtain⟨f,cs,rfl⟩:=a.1.fn;exact⟨_,_,rfl,rfl⟩
 |kids _ _ _ _=>exact⟨_,_,rfl,rfl⟩
def AkG{k:Int}{v:PV}{b:Bool}(h:AQ (.look dSh true true) [shM,I k]=some [some (.tuple [v,.bool b])]):AQ (.look dSh false true) [shM,I k]=some [some v]:=by
 generalize shM=M at h ⊢;obtain⟨u,a,e⟩:=Ac.1 (show(IX dSh true true M (I k)).map (λv=>[some v])=some [some (.tuple [v,.bool b])] from h)
 cases e;show(IX dSh false true M (I k)).map _=_;rw[AxV a];rfl
def BUO(k:Int):∃b,E 142 [I k] [] (.bool b) []:=by
 have e:∃G b,AQ (.fld 2 1 false) [dSh]=some [some G]/\AQ (.bin .neq 2) [G,.nilf]=some [some (.bool b)]:=⟨_,_,rfl,rfl⟩;rcases mG k with⟨v,d,_,h⟩ | h
 ·obtain⟨G,b,c,a⟩:=AUX d;exact⟨b,BZN (AkG h) c a⟩
 ·obtain⟨G,b,c,a⟩:=e;exact⟨b,BZN (AkG h) c a⟩
def OZ:∀{ks:List Tr},(∀k∈ks,k.wf)->Tr.wfs ks
 |[],_=>trivial
 |k::ks,h=>⟨h k (AV ..),OZ λu b=>h u (AP _ b)⟩
def Ps:∀a b:List Tr,CV (a++b)=CV a++CV b
 |[],b=>rfl
 |x::a,b=>by rw[Bg,CV,CV,Ps a b,AC]
def Few(T:Tr):Prop:=∀x∈T.nds,x.wf/\x.kids.length<100000
def Few.kid{T U:Tr}(h:Few T)(b:U∈T.kids):Few U:=λx a=>h x (by rw[Eo];exact AP _ (Ja b x a))
def Few.self{T:Tr}(h:Few T):T.wf/\T.kids.length<100000:=h T (by rw[Eo];exact AV ..)
def Few.wd{T:Tr}(h:Few T):WdT T:=λx a=>⟨(h x a).1,by have:=(h x a).2;omega⟩
def TH:∀{ks:List Tr} {x:Tr},x∈CV ks->∃k∈ks,x∈k.nds
 |k::ks,x,h=>by
  rw[CV] at h;rcases Bv.1 h with h | h
  ·exact⟨k,AV ..,h⟩
  ·obtain⟨u,c,b⟩:=TH h;exact⟨u,AP _ c,b⟩
def AUP{T:Tr}{ks:List Tr}(h:∀k∈ks,Few k)(c:ks.length<100000):Few (T.kd' ks):=by
 intro x a;rw[Eo] at a;rcases AU.1 a with rfl | a
 ·exact⟨⟨nofun,OZ λk b=>(h k b).self.1⟩,c⟩
 ·obtain⟨k,b,a⟩:=TH (show x∈CV ks from a)
  exact h k b x a
def ma{T U V Y:Tr}{n:Nat}(c:Few T)(d:Few V)(g:T.kids[n]?=some U)(i:V.nds.length<=U.nds.length+Y.nds.length):Few (T.kd' (T.kids.take n++[V]++T.kids.drop (n+1)))/\(T.kd' (T.kids.take n++[V]++T.kids.drop (n+1))).nds.length<=T.nds.length+Y.nds.length:=by
 obtain⟨b,e⟩:=Ad.1 g;have h:=c.self.2;refine⟨AUP (λk a=>?_) (by simp;omega),?_⟩
 ·rcases Bv.1 a with a | a
  ·rcases Bv.1 a with a | a
   ·exact c.kid (List.mem_of_mem_take a)
   ·rw[BR] at a;rw[a];exact d
  ·exact c.kid (List.mem_of_mem_drop a)
 ·have f:(CV T.kids).length=(CV (T.kids.take n)).length+(U.nds.length+(CV (T.kids.drop (n+1))).length):=by
   conv=>lhs;rw[<-BH n T.kids,BN b,e,Ps,Ae,CV,Ae]
  rw[Eo,Eo T,Ah,Ah,f];show(CV (T.kids.take n++[V]++T.kids.drop (n+1))).length+1<=_;rw[Ps,Ps,Ae,Ae,CV,CV,Az];omega
def lY{Y:Tr}(g:Few Y){z:Nat}:∀(p:List Int) (T U:Tr),Few T->T.at_ p=some U->z<U.kids.length->Few (T.rep p z (z+1) [Y])/\(T.rep p z (z+1) [Y]).nds.length<=T.nds.length+Y.nds.length
 |[],T,U,d,a,f=>by
  cases a;exact ma d g (Af f) am
 |i::p,T,V,d,b,f=>by
  rw[Tr.at_] at b
  split at b
  ·cases b
  ·cases a:T.kids[i.toNat]? with
   |none=>rw[a] at b;cases b
   |some U=>
    rw[a] at b;obtain⟨j,h⟩:=lY g p U V (d.kid (Am a)) b f
    have e:T.rep (i::p) z (z+1) [Y]=T.kd' (T.kids.take i.toNat++[U.rep p z (z+1) [Y]]++T.kids.drop (i.toNat+1)):=by
     rw[Tr.rep,a];show T.kd' (T.kids.set _ _)=_;rw[List.set_eq_take_append_cons_drop,if_pos (Ad.1 a).1,AC];rfl
    rw[e];exact ma d j a h
def w91{T:Tr}(h:Few T)(c:T.nds.length<=400000):∃b,E 91 [T.pv] [] (.bool b) []:=by
 by_cases a:T.kind=2
 ·obtain⟨b,e,_⟩:=w60 T h.self.1 c h;cases b
  ·exact⟨_,BUS a e⟩
  ·exact⟨_,BUU a e⟩
 ·exact⟨_,BUR a⟩
def w47{T Y:Tr}{X:PV}{p:List Int}(d:KI X p)(Q:p.length<1000000)(c:Few T)(M:T.nds.length<=300000)(w:Bnd Y):∃(V:Tr) (b:Bool),E 47 [T.pv,X,Y.pv] [] (.tuple [V.pv,.bool b]) []:=by
 have u:Few Y:=λx m=>⟨(w.2 x m).1,(w.2 x m).2.1⟩
 have J:=w.1;by_cases r:p=[]
 ·obtain⟨b,e⟩:=w91 u am
  have h:(p.length:Int)=0:=by rw[r];rfl
  cases b
  ·exact⟨_,_,pub d h e⟩
  ·exact⟨_,_,pua d h e⟩
 ·have h:(p.length:Int)≠0:=by
   rw[Ne,Int.natCast_eq_zero,Ak];exact r
  have v:1<=p.length:=Cv.2 r;obtain⟨S,t,a⟩:=d.tk (k:=p.length - 1) am
  have C:=Af (show p.length - 1<p.length by omega)
  have f:=d.idx C;generalize p[p.length - 1]'am=q at f C
  have j:AQ (.bin .add 0) [I q,.int .i64 1]=some [some (I (IntKind.i64.wrap (q+1)))]:=rfl
  have Z:∀s:Int,s≠0->E 92 [T.pv,S,I q,I (IntKind.i64.wrap (q+1)),slF 5 [Y.pv]] [] (.tuple [Z5,I s]) []->∃(V:Tr) (b:Bool),E 47 [T.pv,X,Y.pv] [] (.tuple [V.pv,.bool b]) []:=λs H e=>
   ⟨.mk 0 [] 0 0 true [],false,pue (W:=.mk 0 [] 0 0 true []) d h am v t a f f j e H⟩
  rcases w49 a (by rw[AA];omega) (λx m=>(c x m).1) with⟨U,D,o,g⟩ | ⟨_,g⟩
  ·by_cases i:q<0
   ·exact Z _ (by decide) (rta a g i)
   by_cases k:q>IntKind.i64.wrap (q+1)
   ·exact Z _ (by decide) (rtb a g i k)
   by_cases l:IntKind.i64.wrap (q+1) > (U.kids.length:Int)
   ·exact Z _ (by decide) (rtc a g i k (c U o).1 l)
   have G:=(c U o).2;obtain⟨n,rfl⟩:∃n:Nat,q=n:=⟨q.toNat,am⟩
   have a2:IntKind.i64.wrap ((n:Int)+1)=((n+1:Nat):Int):=by
    have K:=AO n 1 am
    have:=j.symm.trans K;injection this with this
    injection this with this
    injection this with this
    injection this
   rw[a2] at k l j Z;obtain⟨O,z⟩:=BxP (.inr rfl:KV (slF 5 [Y.pv]) [Y]) (by simp) (λV y=>by rw[BR] at y;rw[y];exact u.wd) (z:=n) (y:=n+1) _ T S a c.wd U D am am (by simp;omega)
   obtain⟨L,P⟩:=lY u (z:=n) _ T U c D am
   have F:E 92 [T.pv,S,N n,N (n+1),slF 5 [Y.pv]] [] (.tuple [(T.rep (p.take (p.length - 1)) n (n+1) [Y]).pv,I 0]) []->∃(V:Tr) (b:Bool),E 47 [T.pv,X,Y.pv] [] (.tuple [V.pv,.bool b]) []:=λe=>by
    obtain⟨b,A⟩:=w91 L am
    cases b
    ·exact⟨_,_,pud d h am v t a f f j e rfl A⟩
    ·exact⟨_,_,puc d h am v t a f f j e rfl A⟩
   obtain⟨b,B⟩:=BUO U.kind;cases b
   ·exact F (rte a g i k (c U o).1 l B (X0 (n+1) n am am) (by simp) z)
   ·exact F (rtd a g i k (c U o).1 l B z)
  ·exact Z _ (by decide) (rtg (U:=.mk 0 [] 0 0 true []) a g)
def RV13:Rn 13 a13:=rn
section
variable{s o:List UInt8}{from_:Int}{i k m:Nat}{p:UInt8}{e:CE}{j:FF}{l:Sto}
section
variable(r:(i:Int) < (s.length:Int))(c2:BM .sidx [.str s,N i] (.int .u8 p.toNat))
include r c2
theorem BVU(a:(p.toNat:Int)=10):LL a13 1 [(0,some (.str s)),(1,some (I from_)),(5,some (.str o)),(6,some (N i)),(7,some (N k))] [] (.exit 2) [(0,some (.str s)),(1,some (I from_)),(5,some (.str o)),(6,some (N i)),(7,some (N k))] []:=
 Bw [0,1,5,6,7] [sp 3 (AZ .i64 r),sq 3 c2,sq 0 (Dr .u8 a)]
theorem BVT(b:(p.toNat:Int)≠10)(c:i<1000000000)(a:LL a13 1 [(0,some (.str s)),(1,some (I from_)),(5,some (.str o)),(6,some (N (i+1))),(7,some (N k))] [] e j l):LL a13 1 [(0,some (.str s)),(1,some (I from_)),(5,some (.str o)),(6,some (N i)),(7,some (N k))] [] e j l:=
 BC [0,1,5,6,7] [sp 3 (AZ .i64 r),sq 3 c2,sq 0 (C8 .u8 b),sp 3 (AO i 1 am)] a
end
def BVS(a:¬(i:Int) < (s.length:Int)):LL a13 1 [(0,some (.str s)),(1,some (I from_)),(5,some (.str o)),(6,some (N i)),(7,some (N k))] [] (.exit 2) [(0,some (.str s)),(1,some (I from_)),(5,some (.str o)),(6,some (N i)),(7,some (N k))] []:=
 Bw [0,1,5,6,7] [sp 3 (Bh .i64 a)]
section
variable(r:(i:Int) < (s.length:Int))(c2:BM .sidx [.str s,N i] (.int .u8 p.toNat))(x:(p.toNat:Int)=35)(L1:LL a13 1 [(0,some (.str s)),(1,some (I from_)),(5,some (.str o)),(6,some (N i)),(7,some (N i))] [] (.exit 2) [(0,some (.str s)),(1,some (I from_)),(5,some (.str o)),(6,some (N m)),(7,some (N i))] [])
include r c2 x L1
theorem BVR(g:(i:Int)>=from_){a:List UInt8}(d:BM (.ssl true true) [.str s,N i,N m] (.str a))(c:(a:List UInt8).length+([10]:List UInt8).length<=CL)(f:(o:List UInt8).length+((a++[10]):List UInt8).length<=CL)(h:m<1000000000)(b:LL a13 0 [(0,some (.str s)),(1,some (I from_)),(5,some (.str (o++(a++[10])))),(6,some (N (m+1)))] [] e j l):LL a13 0 [(0,some (.str s)),(1,some (I from_)),(5,some (.str o)),(6,some (N i))] [] e j l:=
 BC [0,1,5,6] [sp 3 (AZ .i64 r),sp 3 c2,sp 0 (Dr .u8 x),sl 3 [0,1,5,6,7] L1,sp 2 (Gi .i64 g),sp 5 d,sp 0 (Es c),sp 0 (Es f),sp 2 (AO m 1 am)] b
theorem BVQ(b:¬(i:Int)>=from_)(c:m<1000000000)(a:LL a13 0 [(0,some (.str s)),(1,some (I from_)),(5,some (.str o)),(6,some (N (m+1)))] [] e j l):LL a13 0 [(0,some (.str s)),(1,some (I from_)),(5,some (.str o)),(6,some (N i))] [] e j l:=
 BC [0,1,5,6] [sp 3 (AZ .i64 r),sp 3 c2,sp 0 (Dr .u8 x),sl 3 [0,1,5,6,7] L1,sp 2 (Im .i64 b),sp 2 (AO m 1 am)] a
end
def BVP(b:(i:Int) < (s.length:Int))(c2:BM .sidx [.str s,N i] (.int .u8 p.toNat))(c:(p.toNat:Int)≠35)(d:i<1000000000)(a:LL a13 0 [(0,some (.str s)),(1,some (I from_)),(5,some (.str o)),(6,some (N (i+1)))] [] e j l):LL a13 0 [(0,some (.str s)),(1,some (I from_)),(5,some (.str o)),(6,some (N i))] [] e j l:=
 BC [0,1,5,6] [sp 3 (AZ .i64 b),sp 3 c2,sp 0 (C8 .u8 c),sp 2 (AO i 1 am)] a
def AZE(a:¬(i:Int) < (s.length:Int)):LL a13 0 [(0,some (.str s)),(1,some (I from_)),(5,some (.str o)),(6,some (N i))] [] (.exit 0) [(5,some (.str o))] []:=
 Bw [5] [sp 3 (Bh .i64 a)]
def BVO(a:LL a13 0 [(0,some (.str s)),(1,some (I from_)),(5,some (.str [])),(6,some (I 0))] [] (.exit 0) [(5,some (.str o))] []):EvE 13 [.str s,I from_] (.str o):=
 rule RV13 [sl 3 [0,1,5,6] a]
end
def cm(fz:Int):Option Bool->Nat->List UInt8->List UInt8
 |none,_,[]=>[]
 |some e,_,[]=>if e then[10] else[]
 |none,k,c::l=>if c=35 then(if decide ((k:Int)>=fz) then[35] else[])++cm fz (some (decide ((k:Int)>=fz))) (k+1) l else cm fz none (k+1) l
 |some e,k,c::l=>if c=10 then(if e then[10] else[])++cm fz none (k+1) l else(if e then[c] else[])++cm fz (some e) (k+1) l
def nz(fz:Int)(e:Bool):∀(l:List UInt8) (k:Nat),cm fz (some e) k l=(if e then l.takeWhile (· != 10)++[10] else[])++cm fz none (k+(l.takeWhile (· != 10)).length+1) (l.drop ((l.takeWhile (· != 10)).length+1))
 |[],k=>by cases e<;>simp[cm]
 |c::l,k=>by
  rw[cm];by_cases h:c=10
  ·subst h;cases e<;>simp[cm]
  ·rw[if_neg h,nz fz e l (k+1)];have b:(c != 10)=true:=by simp[h]
   rw[BS,b];simp only[if_true,Ah,Cj];rw[show k+1+(l.takeWhile (· != 10)).length+1=k+((l.takeWhile (· != 10)).length+1)+1 by omega]
   cases e<;>simp
def QR(fz:Int):∀(l:List UInt8) (o:Option Bool) (k:Nat),(cm fz o k l).length<=l.length+1
 |[],none,k=>by simp[cm]
 |[],some e,k=>by cases e<;>simp[cm]
 |c::l,none,k=>by
  have f:=QR fz l none (k+1);have b:=QR fz l (some (decide ((k:Int)>=fz))) (k+1);rw[cm];generalize decide ((k:Int)>=fz)=d at b ⊢;split
  ·rw[Ae,Ah];cases d<;>simp at b ⊢<;>omega
  ·rw[Ah];omega
 |c::l,some e,k=>by
  have f:=QR fz l none (k+1);have b:=QR fz l (some e) (k+1);rw[cm]
  split<;>(rw[Ae,Ah];cases e<;>simp<;>omega)
section
variable{s:List UInt8}(x:s.length<100000000){fz:Int}
include x
theorem gU{o:List UInt8}{k:Nat}:∀(n i:Nat),i<=s.length->s.length - i=n->LL a13 1 [(0,some (.str s)),(1,some (I fz)),(5,some (.str o)),(6,some (N i)),(7,some (N k))] [] (.exit 2) [(0,some (.str s)),(1,some (I fz)),(5,some (.str o)),(6,some (N (i+((s.drop i).takeWhile (· != 10)).length))),(7,some (N k))] []
 |0,i,h,d=>by
  rw[AY.2 am]
  exact BVS am
 |n+1,i,h,d=>by
  have g:=Af (show i<s.length by omega)
  have c:=Bi s i _ g;rw[BN (show i<s.length by omega),BS]
  by_cases a:s[i]'am=10
  ·rw[a] at c ⊢;exact BVU am c rfl
  ·have f:(s[i]'am != 10)=true:=by simp[a]
   have:=gU (o:=o) (k:=k) n (i+1) am am
   rw[f,if_pos rfl,Ah,show i+(((s.drop (i+1)).takeWhile (· != 10)).length+1)=i+1+((s.drop (i+1)).takeWhile (· != 10)).length by omega]
   exact BVT am c (λe=>a ((u8i _ 10).1 e)) am this
theorem PO:∀(n i:Nat) (o:List UInt8),s.length+1 - i<=n->o.length+(s.length+1 - i)<=200000000->LL a13 0 [(0,some (.str s)),(1,some (I fz)),(5,some (.str o)),(6,some (N i))] [] (.exit 0) [(5,some (.str (o++cm fz none i (s.drop i))))] []
 |0,i,o,h,_=>by
  rw[AY.2 am]
  have:=AZE (s:=s) (o:=o) (from_:=fz) (i:=i) am
  simpa [cm] using this
 |n+1,i,o,h,w=>by
  by_cases hi:i<s.length
  ·have g:=Af hi;have q:=Bi s i _ g;have r:=BN hi;by_cases b:s[i]=35
   ·have m:=gU x (fz:=fz) (o:=o) (k:=i) (s.length - i) i am rfl
    have k:(s.drop i).takeWhile (· != 10)=35::(s.drop (i+1)).takeWhile (· != 10):=by
     rw[r,b];rfl
    have v:((s.drop (i+1)).takeWhile (· != 10)).length<=s.length - (i+1):=by
     have:=(List.takeWhile_sublist (l:=s.drop (i+1)) (· != (10:UInt8))).length_le;rw[Aw] at this;exact this
    have c:=K8 s i (i+((s.drop i).takeWhile (· != 10)).length) am (by rw[k,Ah];omega)
    have p:(s.drop i).take (i+((s.drop i).takeWhile (· != 10)).length - i)=(s.drop i).takeWhile (· != 10):=by
     rw[EM]
     conv=>lhs;arg 2;rw[<-EA (p:=(· != 10)) (l:=s.drop i)]
     rw[List.take_left]
    rw[p] at c
    have t:cm fz none i (s.drop i)=(if decide ((i:Int)>=fz) then(s.drop i).takeWhile (· != 10)++[10] else[])++cm fz none (i+((s.drop i).takeWhile (· != 10)).length+1) (s.drop (i+((s.drop i).takeWhile (· != 10)).length+1)):=by
     rw[k]
     conv=>lhs;rw[r,b,cm,if_pos rfl,nz]
     rw[BZ,Ah];rw[show i+1+((s.drop (i+1)).takeWhile (· != 10)).length+1=i+(((s.drop (i+1)).takeWhile (· != 10)).length+1)+1 by omega,show i+1+(((s.drop (i+1)).takeWhile (· != 10)).length+1)=i+(((s.drop (i+1)).takeWhile (· != 10)).length+1)+1 by omega]
     cases decide ((i:Int)>=fz)<;>simp
    rw[t];have j:((s.drop i).takeWhile (· != 10)).length<=s.length - i:=by rw[k,Ah];omega
    have f:1<=((s.drop i).takeWhile (· != 10)).length:=by rw[k,Ah];omega
    generalize (s.drop i).takeWhile (· != 10)=u at m c j f;by_cases l:(i:Int)>=fz
    ·have d:=PO n (i+u.length+1) (o++(u++[10])) am (by simp only[Ae,Ah,Ba];omega)
     rw[decide_eq_true l,if_pos rfl,<-AC];exact BVR am q (by rw[b];rfl) m l c (by simp only[CL,Ah,Ba];omega) (by simp only[CL,Ae,Ah,Ba];omega) am d
    ·have d:=PO n (i+u.length+1) o am am
     rw[decide_eq_false l];exact BVQ am q (by rw[b];rfl) m l am d
   ·have d:=PO n (i+1) o am am
    rw[r,cm,if_neg b];exact BVP am q (λe=>b ((u8i _ 35).1 e)) am d
  ·rw[AY.2 am]
   have:=AZE (s:=s) (o:=o) (from_:=fz) (i:=i) am
   simpa [cm] using this
theorem w13:E 13 [.str s,I fz] [] (.str (cm fz none 0 s)) []:=by
 have:=PO x (fz:=fz) (s.length+1) 0 [] am (by simp;omega)
 exact BVO this
end
def sc:Bool->List UInt8->Bool
 |b,[]=>b
 |false,c::l=>sc (c==35) l
 |true,c::l=>sc (c != 10) l
def Ya:∀(a b:List UInt8) (x:Bool),sc x (a++b)=sc (sc x a) b
 |[],b,x=>rfl
 |c::a,b,false=>by rw[Bg,sc,sc,Ya a b]
 |c::a,b,true=>by rw[Bg,sc,sc,Ya a b]
def OV(fz:Int):∀(a b:List UInt8) (o:Option Bool) (k:Nat),sc o.isSome a=false->cm fz o k (a++b)=cm fz o k a++cm fz none (k+a.length) b
 |[],b,none,k,h=>by simp[cm]
 |[],b,some e,k,h=>by cases h
 |c::a,b,none,k,h=>by
  have g:sc (c==35) a=false:=h;rw[Bg,cm,cm];by_cases f:c=35
  ·subst f;rw[if_pos rfl,if_pos rfl,OV fz a b (some (decide ((k:Int)>=fz))) _ g,AC,Ah,show k+1+a.length=k+(a.length+1) by omega]
  ·rw[beq_eq_false_iff_ne.2 f] at g;rw[if_neg f,if_neg f,OV fz a b none _ g,Ah,show k+1+a.length=k+(a.length+1) by omega]
 |c::a,b,some e,k,h=>by
  have g:sc (c != 10) a=false:=h;rw[Bg,cm,cm];by_cases f:c=10
  ·subst f;rw[if_pos rfl,if_pos rfl,OV fz a b none _ g,AC,Ah,show k+1+a.length=k+(a.length+1) by omega]
  ·rw[bne_iff_ne.2 f] at g;rw[if_neg f,if_neg f,OV fz a b (some e) _ g,AC,Ah,show k+1+a.length=k+(a.length+1) by omega]
def AZB(fz:Int):∀(l:List UInt8) (k:Nat),Cl l->cm fz none k l=[]
 |[],k,h=>rfl
 |c::l,k,h=>by rw[cm,if_neg (h c (AV ..)),AZB fz l (k+1) λx b=>h x (AP _ b)]
def uP:∀l:List UInt8,Cl l->sc false l=false
 |[],h=>rfl
 |c::l,h=>by
  rw[sc,beq_eq_false_iff_ne.2 (h c (AV ..))];exact uP l λx b=>h x (AP _ b)
def Ns(fz:Int):∀(l:List UInt8) (o:Option Bool) (k:Nat),o≠some true->(k:Int)+l.length<=fz->cm fz o k l=[]
 |[],none,k,b,h=>rfl
 |[],some e,k,b,h=>by cases e<;>first | rfl | exact absurd rfl b
 |c::l,none,k,b,h=>by
  rw[Ah] at h;rw[cm,decide_eq_false (show ¬(k:Int)>=fz by omega),Ns fz l none (k+1) b am,Ns fz l (some false) (k+1) (by simp) am]
  split<;>rfl
 |c::l,some e,k,b,h=>by
  rw[Ah] at h;have d:e=false:=by cases e<;>first | rfl | exact absurd rfl b
  subst d;rw[cm,Ns fz l none (k+1) (by simp) am,Ns fz l (some false) (k+1) (by simp) am]
  split<;>rfl
def PP(fz:Int):∀(l:List UInt8) (o:Option Bool) (k b:Nat),fz<=k->cm fz o k l=cm 0 o b l
 |[],none,k,b,h=>rfl
 |[],some e,k,b,h=>rfl
 |c::l,none,k,b,h=>by
  rw[cm,cm,decide_eq_true (show(k:Int)>=fz by omega),decide_eq_true (show(b:Int)>=0 by omega),PP fz l _ (k+1) (b+1) am,PP fz l none (k+1) (b+1) am]
 |c::l,some e,k,b,h=>by
  rw[cm,cm,PP fz l none (k+1) (b+1) am,PP fz l (some e) (k+1) (b+1) am]
def NC(s:List UInt8)(a:Nat):Prop:=sc false (s.take a)=false
def Bq7{s t:List UInt8}{a e:Nat}(d:NC s a)(f:NC s e)(b:Cl t)(g:e<=s.length):
  cm 0 none 0 (s.take a++t++s.drop e)=cm 0 none 0 (s.take a)++cm e none 0 s:=by
 have c:cm (e:Int) none 0 s=cm e none 0 (s.take e)++cm e none (0+(s.take e).length) (s.drop e):=by
  conv=>lhs;rw[<-BH e s]
  exact OV e _ _ none 0 f
 rw[AC,OV 0 _ _ none 0 d,OV 0 t _ none _ (uP t b),AZB 0 t _ b,Bn,c,Ns (e:Int) (s.take e) none 0 (by simp) (by rw[AA];omega),Bn]
 congr 1;exact(PP (e:Int) (s.drop e) none _ _ (by rw[AA];omega)).symm
def ZV(s:List UInt8):NC s 0:=rfl
def ZW{s:List UInt8}{a b:Nat}(h:NC s a)(c:a<=b)(d:Cl ((s.drop a).take (b - a))):NC s b:=by
 unfold NC at *
 have:s.take b=s.take a++(s.drop a).take (b - a):=by
  rw[<-List.take_add,show a+(b - a)=b by omega]
 rw[this,Ya,h,uP _ d]
def uO:∀(l:List UInt8) (x:Bool),sc x (l++[10])=false
 |[],false=>rfl
 |[],true=>rfl
 |c::l,false=>by rw[Bg,sc];exact uO l _
 |c::l,true=>by rw[Bg,sc];exact uO l _
def AkQ{s:List UInt8}{a:Nat}(h:s[a]?=some 10):NC s (a+1):=by
 obtain⟨b,c⟩:=Ad.1 h;unfold NC;rw[<-List.take_append_getElem b,c];exact uO _ _
def wE(s:List UInt8):∀a,NC s (lst s a)
 |0=>ZV s
 |a+1=>by
  rw[lst];by_cases h:s[a]?=some 10
  ·rw[if_pos h];exact AkQ h
  ·rw[if_neg h];exact wE s a
def bL:∀(b:Bool) (l:List UInt8),l.drop (skN b l)≠[]->sc b (l.take (skN b l))=false
 |false,[],h=>rfl
 |true,[],h=>absurd rfl h
 |true,c::l,h=>by
  rw[skN] at h ⊢;by_cases d:c=10
  ·rw[if_pos d] at h ⊢;rw[Cm,Cj] at h;rw[Cm,DU,sc,show(c != 10)=false by simp[d]]
   exact bL false l h
  ·rw[if_neg d] at h ⊢;rw[Cm,Cj] at h;rw[Cm,DU,sc,show(c != 10)=true by simp[d]]
   exact bL true l h
 |false,c::l,h=>by
  rw[skN] at h ⊢;by_cases f:whB c=true
  ·rw[if_pos f] at h ⊢;rw[Cm,Cj] at h;have:c≠35:=λe=>by rw[e] at f;exact absurd f (by decide)
   rw[Cm,DU,sc,beq_eq_false_iff_ne.2 this];exact bL false l h
  ·rw[if_neg f] at h ⊢;by_cases d:c=35
   ·rw[if_pos d] at h ⊢;rw[Cm,Cj] at h;rw[Cm,DU,sc,show(c==35)=true by simp[d]]
    exact bL true l h
   ·rw[if_neg d];rfl
def lq:∀(b:Bool) (l:List UInt8) {c:UInt8} {r:List UInt8},l.drop (skN b l)=c::r->c≠35
 |_,[],c,r,h=>by rw[List.drop_nil] at h;cases h
 |true,d::l,c,r,h=>by
  rw[skN] at h
  split at h<;>(rw[Cm,Cj] at h;exact lq _ l h)
 |false,d::l,c,r,h=>by
  rw[skN] at h
  split at h
  ·rw[Cm,Cj] at h;exact lq _ l h
  ·split at h
   ·rw[Cm,Cj] at h;exact lq _ l h
   ·rename_i e;rw[DZ] at h;cases h;exact e
def x9{p:UInt8->Bool}(a:p 35=false)(l:List UInt8):Cl (l.take (Dc p l)):=UC (Qr p l) a
def AZC:∀l:List UInt8,Cl (l.take (wrN l))
 |[]=>Fy
 |c::l=>by
  rw[wrN];by_cases h:J3 c l=true
  ·rw[if_pos h];exact Fy
  ·rw[if_neg h,Cm,DU];have:c≠35:=λe=>h (by rw[e];simp[J3])
   intro x a;rcases AU.1 a with rfl | a
   ·exact this
   ·exact AZC l x a
def Bq8{c:UInt8}{l:List UInt8}(h:c≠35):Cl ((c::l).take (Ia (c::l)).2):=by
 unfold Ia;split
 ·exact x9 (by decide) _
 ·split
  ·exact x9 (by decide) _
  ·split
   ·show Cl ((c::l).take (Ib (c::l)));rw[Ib];split
    ·rename_i b;cases l with
     |nil=>exact absurd b.1 (by simp)
     |cons d l=>
      have e:d=61:=by simpa using b.1
      subst e;intro x a;simp at a;rcases a with rfl | rfl
      ·exact h
      ·decide
    ·split
     ·intro x a;simp at a;subst a;exact h
     ·exact Fy
   ·show Cl ((c::l).take (1+wrN l));rw[Cm,DU];intro x a;rcases AU.1 a with rfl | a
    ·exact h
    ·exact AZC l x a
def lM(s:List UInt8):∀(n f:Nat),f<=s.length->NC s f->∀t∈JK n (s.drop f) f,t.k≠5->NC s t.a/\NC s t.e/\t.a<s.length/\(s.drop t.a).head?≠some 35
 |0,f,x,h,t,a,j=>by cases a
 |n+1,f,x,h,t,a,j=>by
  have o:=Mi false (s.drop f);rw[Aw] at o;rw[JK] at a;by_cases i:(s.drop f).drop (skN false (s.drop f))=[]
  ·simp only[i,if_true,BR] at a;subst a;exact absurd rfl j
  ·simp only[i,if_false] at a
   have q:NC s (f+skN false (s.drop f)):=by
    unfold NC at h ⊢;rw[List.take_add,Ya,h];exact bL false _ i
   obtain⟨c,r,k⟩:∃c r,(s.drop f).drop (skN false (s.drop f))=c::r:=by
    cases v:(s.drop f).drop (skN false (s.drop f)) with
    |nil=>exact absurd v i
    |cons c r=>exact⟨c,r,rfl⟩
   have g:=lq false _ k;have d:s.drop (f+skN false (s.drop f))=c::r:=by rw[<-BZ];exact k
   have p:f+skN false (s.drop f) < s.length:=by
    rcases Be (f+skN false (s.drop f)) s.length with l | l
    ·exact l
    ·rw[AY.2 l] at d;cases d
   have w:=XY (show(c::r)≠[] by simp)
   have u:(c::r).length=s.length - (f+skN false (s.drop f)):=by rw[<-d,Aw]
   rw[k] at a
   have b:NC s (f+skN false (s.drop f)+(Ia (c::r)).2):=ZW q am (by
    rw[d,EM];exact Bq8 g)
   rcases AU.1 a with rfl | a
   ·exact⟨q,b,p,by rw[d];simpa using g⟩
   ·have m:(c::r).drop (Ia (c::r)).2=s.drop (f+skN false (s.drop f)+(Ia (c::r)).2):=by rw[<-d,BZ]
    rw[m] at a;exact lM s n _ am b t a j
def tK(s:List UInt8):∀t∈Gl s,t.k≠5->NC s t.a/\NC s t.e/\t.a<s.length/\(s.drop t.a).head?≠some 35:=λt a b=>
 lM s (s.length+1) 0 (Ca _) (ZV s) t (by rw[DZ];exact a) b
def Qz(s:List UInt8)(z:Int):Prop:=∃a:Nat,z=(a:Int)/\NC s a/\a<=s.length
def QN(s:List UInt8)(y:Tr):Prop:=Qz s y.st/\Qz s y.en
def BQA{s:List UInt8}{x y:Int}(h:Qz s x)(a:Qz s y):Qz s (min x y):=by
 rcases Int.le_total x y with q | q
 ·rw[Int.min_eq_left q];exact h
 ·rw[Int.min_eq_right q];exact a
section
variable{s:List UInt8}{m:Nat}(H:CG s (BL s) m)
include H
theorem AkO{k:Nat}(f:k<m):Qz s (tA (BL s) k:Nat)/\Qz s (tE (BL s) k:Nat):=by
 obtain⟨t,a⟩:=H.at (k:=k) am
 have e:t∈Gl s:=(Dj.1 (Am a)).1;have h:=H.kd k t a f;obtain⟨b,c,g,_⟩:=tK s t e am
 have d:=H.ord k t a;rw[JI a,O1 a];exact⟨⟨_,rfl,b,am⟩,⟨_,rfl,c,d.2⟩⟩
theorem q_en{k:Nat}(a:k<=m):Qz s (en (BL s) k:Nat):=by
 cases k with
 |zero=>exact⟨0,rfl,ZV s,Ca _⟩
 |succ k=>exact(AkO H (show k<m by omega)).2
mutual
theorem Bj6:∀x:AT,x.ok->x.lst<=m->∀y∈(trP (BL s) x).nds,QN s y
 |.mk kd tx f k b ks,ho,hm=>by
  have hk:k<=m:=hm;have hs:=iO ks f k ho.2.2 hk
  have own:Qz s (if f<k then((tA (BL s) f:Nat):Int) else(en (BL s) k:Nat)):=by
   split
   ·exact(AkO H am).1
   ·exact q_en H hk
  have hst:Qz s (trP (BL s) (.mk kd tx f k b ks)).st:=by
   cases ks with
   |nil=>exact own
   |cons y ys=>
    exact BQA own (hs (trP (BL s) y) (by rw[Fh,CV,Eo];exact List.mem_append_left _ (AV ..))).1
  intro y hy;rw[Eo] at hy;rcases AU.1 hy with rfl | hy
  ·exact⟨hst,q_en H hk⟩
  ·exact hs y hy
theorem iO:∀(xs:List AT) (lo hi:Nat),oks lo hi xs->hi<=m->∀y∈CV (Fh (BL s) xs),QN s y
 |[],_,_,_,_=>λy hy=>by cases hy
 |x::xs,lo,hi,h,hm=>by
  obtain⟨h1,h2,h3⟩:=h;have h4:=h3.le;intro y hy;rw[Fh,CV] at hy;rcases Bv.1 hy with hy | hy
  ·exact Bj6 x h2 am y hy
  ·exact iO xs x.lst hi h3 hm y hy
end
theorem BQC{a:List AT}{k:Nat}(h:oks 0 k a)(b:k<=m):∀y∈CV (prT s (BL s) a).kids,QN s y:=iO H a 0 k h b
end
end Go.Abs.Z

namespace Go.Abs.Z
open Go.Proofs Go.RowKit Pg
mutual
def AT.bok:AT->Prop
 |.mk kd _ f k _ ks=>(kd=11->f<k)/\MN ks
def MN:List AT->Prop
 |[]=>True
 |x::xs=>x.bok/\MN xs
end
def gY:∀{xs:List AT} {x:AT},MN xs->x.bok->MN (xs++[x])
 |[],x,_,h=>⟨h,trivial⟩
 |y::xs,x,h,b=>⟨h.1,gY h.2 b⟩
mutual
def AT.size:AT->Nat
 |.mk _ _ _ _ _ ks=>1+sizes ks
def sizes:List AT->Nat
 |[]=>0
 |x::xs=>x.size+sizes xs
end
def Ql:∀(xs:List AT) (x:AT),sizes (xs++[x])=sizes xs+x.size
 |[],x=>by simp[sizes]
 |y::xs,x=>by rw[Bg,sizes,sizes,Ql xs x];omega
def preB:NT->Prop
 |.lp _ _ x=>x.bok
 |.tl _ a=>MN a
 |.sts a=>MN a
 |.pg a=>MN a
 |_=>True
def szB:NT->Nat->Rs->Nat->Prop
 |.ex _,k,v,j=>v.1.size+1+4 * k<=4 * j
 |.lp _ _ x,k,v,j=>v.1.size+4 * k<=x.size+4 * j
 |.tl _ a,k,v,j=>sizes v.2+4 * k<=sizes a+4 * j
 |.sts a,k,v,j=>sizes v.2+4 * k<=sizes a+4 * j
 |.pg a,k,v,j=>sizes v.2+4 * k<=sizes a+4 * j
 |.sk _,_,_,_=>True
 |.sp,_,_,_=>True
 |_,k,v,j=>v.1.size+4 * k<=4 * j
def uf{x:NT}{k a j b:Nat}{v:Rs}(h:szB x k v j)(c:a<=k)(d:j<=b):szB x a v b:=by
 cases x<;>simp only[szB] at h ⊢<;>omega
section
variable(x0:NT)(k0:Nat)
def WB:Pg->Nat->Prop
 |.ret v,lo=>(v.1.bok/\MN v.2)/\szB x0 k0 v lo
 |.look f,lo=>∀a b k,lo<=k->WB (f a b k) k
 |.read p,lo=>WB p (lo+1)
 |.report _ _ _,_=>True
 |.call x f,lo=>preB x/\∀v k,lo<=k->v.1.bok->MN v.2->szB x lo v k->WB (f v) k
end
def BjV(D:List AD)(c k:Nat)(t:List UInt8):rp D c k t≠[]:=by
 unfold rp;split
 ·intro e;subst e;rename_i h;cases h
 ·simp
def AJ7{x0:NT}{k0:Nat}{w:Nat->Wd}{c:NT->Nat->List AD->LF}(q:∀x k D r,c x k D=some r->k<=r.2.1/\(r.2.2=[]->D=[]/\(preB x->(r.1.1.bok/\MN r.1.2)/\szB x k r.1 r.2.1))):
  ∀(p:Pg) (k:Nat) (D:List AD) (r:Rs×Nat×List AD) (lo:Nat),Ml w c p k D=some r->lo<=k->k<=r.2.1/\(r.2.2=[]->D=[]/\(WB x0 k0 p lo->(r.1.1.bok/\MN r.1.2)/\szB x0 k0 r.1 r.2.1)):=by
 intro p
 induction p with
 |ret v=>intro k D r lo h d;cases h;exact⟨Ai _,λh=>⟨h,λg=>⟨g.1,uf g.2 (Ai _) d⟩⟩⟩
 |look f i=>
  intro k D r lo h d;obtain⟨a,b⟩:=i _ _ _ k D r k h (Ai _);exact⟨a,λe=>⟨(b e).1,λg=>(b e).2 (g _ _ k d)⟩⟩
 |read p i=>
  intro k D r lo h d;simp only[Ml] at h
  split at h
  ·cases h
  ·obtain⟨a,b⟩:=i (k+1) D r (lo+1) h am
   exact⟨am,b⟩
 |report e t p i=>
  intro k D r lo h d;obtain⟨a,b⟩:=i k (rp D e k t) r lo h d;exact⟨a,λn=>absurd (b n).1 (BjV _ _ _ _)⟩
 |call x f i=>
  intro k D r lo h d;obtain⟨u,m,s⟩:=AB.1 h;obtain⟨a,b⟩:=q _ _ _ _ m;obtain⟨a2,j⟩:=i u.1 u.2.1 u.2.2 r u.2.1 s (Ai _);refine⟨am,λe=>⟨(b (j e).1).1,λg=>?_⟩⟩
  obtain⟨l,o⟩:=(b (j e).1).2 g.1;exact(j e).2 (g.2 _ _ am l.1 l.2 (uf o d (Ai _)))
section
variable{x0:NT}{k0 lo f kd:Nat}{b:Bool}{p q:Pg}{tx:List UInt8}{ks:List AT}{x:NT}{z:List (List UInt8)}{y:List UInt8}
def qJ{c:Prop}[Decidable c](a:WB x0 k0 p lo)(d:WB x0 k0 q lo):WB x0 k0 (if c then p else q) lo:=by split<;>assumption
def AJB{g:Wd->Wd->Nat->Pg}(h:∀a b k,lo<=k->WB x0 k0 (g a b k) k):WB x0 k0 (.look g) lo:=h
def Aj5(c:∀k,lo<=k->WB x0 k0 p k)(d:∀k,lo<=k->WB x0 k0 q k):WB x0 k0 (ifW z p q) lo:=λ_ _ k a=>qJ (c k a) (d k a)
def qK(c:∀k,lo<=k->WB x0 k0 p k)(d:∀k,lo<=k->WB x0 k0 q k):WB x0 k0 (ifK f p q) lo:=λ_ _ k a=>qJ (c k a) (d k a)
def BxI{g:Nat->Pg}(h:∀k,lo<=k->WB x0 k0 (g k) k):WB x0 k0 (mrk g) lo:=λ_ _ k a=>h k a
def AJ9(h:∀k,lo<k->WB x0 k0 p k):WB x0 k0 (.read p) lo:=h (lo+1) (Nat.lt_succ_self _)
def AJA{g:List UInt8->Pg}(h:∀t k,lo<k->WB x0 k0 (g t) k):WB x0 k0 (rd g) lo:=λa _ k c=>h a.2 (k+1) am
def BxH{e:Nat}:WB x0 k0 (.report e y p) lo:=trivial
def BUD(h:∀k,lo<k->WB x0 k0 p k):WB x0 k0 (xp y p) lo:=Aj5 (λk a=>h (k+1) am) λ_ _=>trivial
def BUE{g:List UInt8->Pg}(h:∀t k,lo<k->WB x0 k0 (g t) k):WB x0 k0 (nm g) lo:=qK (λk c=>AJA λt j a=>h t j am) λ_ _=>trivial
def w_num{g:List UInt8->Pg}(h:∀t k,lo<k->WB x0 k0 (g t) k):WB x0 k0 (num g) lo:=qK (λk c=>AJA λt j a=>h _ j am) λ_ _=>trivial
def BUG{g:AT->Pg}(h:∀k,lo<=k->WB x0 k0 (g (.mk kd tx f k b ks)) k):WB x0 k0 (bd kd tx f b ks g) lo:=λ_ _ k a=>h k a
def BUF{g:AT->Pg}(a:preB x)(h:∀v k,lo<=k->v.1.bok->szB x lo v k->WB x0 k0 (g v.1) k):WB x0 k0 (cl x g) lo:=⟨a,λv k c e _ d=>h v k c e d⟩
def AJC{g:Rs->Pg}(a:preB x)(h:∀v k,lo<=k->v.1.bok->MN v.2->szB x lo v k->WB x0 k0 (g v) k):WB x0 k0 (.call x g) lo:=⟨a,h⟩
def BxG{v:Rs}(a:v.1.bok)(c:MN v.2)(d:szB x0 k0 v lo):WB x0 k0 (.ret v) lo:=⟨⟨a,c⟩,d⟩
def BxJ(a:preB x)(h:∀v k,lo<=k->szB x lo v k->szB x0 k0 v k):WB x0 k0 (Pg.lst x) lo:=⟨a,λv k c g e d=>⟨⟨g,e⟩,h v k c d⟩⟩
def bk{k:Nat}(a:kd=11->f<k)(c:MN ks):(AT.mk kd tx f k b ks).bok:=⟨a,c⟩
def b1{x:AT}(a:x.bok)(c:MN ks):MN (x::ks):=⟨a,c⟩
def dok:(default:AT).bok:=⟨λe=>absurd e (by decide),trivial⟩
end
set_option maxHeartbeats 2000000 in
def AJ8(x:NT)(h:preB x)(lo:Nat):WB x lo (prog x) lo:=by
 unfold prog;split
 all_goals try cases ‹El›
 all_goals repeat' first
  |(intro hz;simp only[szB,AT.size,sizes,Ql] at hz) | intro _ | with_reducible assumption | with_reducible apply Aj5 | with_reducible apply qK | with_reducible apply BUD | with_reducible apply BUE | with_reducible apply w_num | with_reducible apply BUG | with_reducible apply BxI | with_reducible apply AJA | with_reducible apply BUF | with_reducible apply BxJ | with_reducible apply AJC | with_reducible apply BxG | with_reducible apply AJ9 | with_reducible apply BxH | with_reducible apply qJ | with_reducible apply AJB | with_reducible apply b1 | with_reducible apply bk | with_reducible exact dok | omega
  |unfold nod | unfold nop | unfold miss | unfold written | unfold Xy | unfold QL | unfold Qx | unfold Px | unfold Pd | unfold Pk | unfold eO | unfold UR | unfold Jq | unfold OG | unfold wM | unfold eQ | unfold svP | unfold qG | unfold AUO | unfold Ye | unfold aO | unfold X6
  |(simp only[szB,AT.size,sizes,Ql];omega) | (simp only[szB];done)
  |exact trivial | assumption | exact dok | apply gY | apply b1 | (simp only[preB];apply bk)
def bW{w:Nat->Wd}:∀(n:Nat) (x:NT) (k:Nat) (D:List AD) (r:Rs×Nat×List AD),runN w n x k D=some r->k<=r.2.1/\(r.2.2=[]->D=[]/\(preB x->(r.1.1.bok/\MN r.1.2)/\szB x k r.1 r.2.1))
 |0,x,k,D,r,h=>by cases h
 |n+1,x,k,D,r,h=>by
  obtain⟨a,b⟩:=AJ7 (x0:=x) (k0:=k) (bW n) (prog x) k D r k h (Ai _);exact⟨a,λe=>⟨(b e).1,λd=>(b e).2 (AJ8 x d k)⟩⟩
end Go.Abs.Z

namespace Go.Abs.Z
open Go.Proofs Go.RowKit
structure KN(s:List UInt8)(y:Tr):Prop where
 q:QN s y
 le:y.st<=y.en
 b:y.kind=11->y.kids=[]->Qz s (y.st+1)
def AYP{s:List UInt8}{m:Nat}(H:CG s (BL s) m){k:Nat}(f:k<m):Qz s (((tA (BL s) k:Nat):Int)+1):=by
 obtain⟨t,a⟩:=H.at (k:=k) am
 have h:t∈Gl s:=(Dj.1 (Am a)).1;have l:=H.kd k t a f;obtain⟨e,j,i,b⟩:=tK s t h am
 rw[JI a];refine⟨t.a+1,by simp,ZW e am ?_,am⟩
 rw[EM];cases g:s.drop t.a with
 |nil=>exact Fy
 |cons c r=>
  rw[g] at b;intro x d;simp at d b;rw[d];exact b
mutual
def Bj4{s:List UInt8}{m:Nat}(H:CG s (BL s) m):∀x:AT,x.ok->x.lst<=m->x.bok->∀y∈(trP (BL s) x).nds,y.kind=11->y.kids=[]->Qz s (y.st+1)
 |.mk kd tx f k b ks,ho,hm,hb=>by
  intro y hy;rw[Eo] at hy;rcases AU.1 hy with rfl | hy
  ·intro hk he;have hf:f<k:=hb.1 (by have:(kd:Int)=11:=hk;omega)
   have:ks=[]:=by
    have h0:(Fh (BL s) ks).length=0:=congrArg List.length he;rw[LJ] at h0;exact Ak.1 h0
   subst this;show Qz s ((if f<k then((tA (BL s) f:Nat):Int) else _)+1)
   rw[if_pos hf];exact AYP H (by have:k<=m:=hm;omega)
  ·exact iL H ks f k ho.2.2 hm hb.2 y hy
def iL{s:List UInt8}{m:Nat}(H:CG s (BL s) m):∀(xs:List AT) (lo hi:Nat),oks lo hi xs->hi<=m->MN xs->∀y∈CV (Fh (BL s) xs),y.kind=11->y.kids=[]->Qz s (y.st+1)
 |[],_,_,_,_,_=>λy hy=>by cases hy
 |x::xs,lo,hi,h,hm,hb=>by
  obtain⟨h1,h2,h3⟩:=h;have h4:=h3.le;intro y hy;rw[Fh,CV] at hy;rcases Bv.1 hy with hy | hy
  ·exact Bj4 H x h2 am hb.1 y hy
  ·exact iL H xs x.lst hi h3 hm hb.2 y hy
end
mutual
def AUI:∀x:Tr,x.ins->∀y∈x.nds,y=x\/y.st<=y.en
 |.mk k t a e n ks,h,y,hy=>by
  rw[Eo] at hy;rcases AU.1 hy with hy | hy
  ·exact .inl hy
  ·exact .inr (aj ks a e h y hy)
def aj:∀(xs:List Tr) (a e:Int),oZ a e xs->∀y∈CV xs,y.st<=y.en
 |[],_,_,_,y,hy=>by cases hy
 |x::xs,a,e,h,y,hy=>by
  rw[CV] at hy;rcases Bv.1 hy with hy | hy
  ·rcases AUI x h.2.2.2.1 y hy with rfl | h'
   ·exact h.2.1
   ·exact h'
  ·exact aj xs _ e h.2.2.2.2 y hy
end
mutual
def wD:∀x:Tr,x.bare.nds=x.nds.map Tr.bare
 |.mk k t a e n ks=>by rw[Tr.bare,Eo,Eo,Bu];exact congrArg _ (NJ ks)
def NJ:∀xs:List Tr,CV (I1 xs)=(CV xs).map Tr.bare
 |[]=>rfl
 |x::xs=>by rw[I1,CV,CV,BV,wD x,NJ xs]
end
def Az7{s:List UInt8}{x y:Tr}(h:x.bare=y.bare)(c:KN s x):KN s y:=by
 obtain⟨k,t,a,e,n,ks⟩:=x;obtain⟨p,m,a',o,r,b⟩:=y;rw[Tr.bare,Tr.bare] at h;injection h with d u l f q j
 subst d l f;refine⟨c.q,c.le,λg i=>c.b g ?_⟩
 have:b=[]:=i;subst this;show ks=[];exact Ak.1 (by rw[XE j];rfl)
def AUB{s:List UInt8}{T U:Tr}(h:T.bare=U.bare)(c:∀y∈CV T.kids,KN s y):∀y∈CV U.kids,KN s y:=by
 intro y b
 have e:I1 T.kids=I1 U.kids:=by
  cases T;cases U;rw[Tr.bare,Tr.bare] at h;injection h
 have:y.bare∈(CV T.kids).map Tr.bare:=by
  rw[<-NJ,e,NJ];exact List.mem_map_of_mem b
 obtain⟨x,a,d⟩:=E8.1 this;exact Az7 d (c x a)
end Go.Abs.Z

namespace Go.Abs.Z
noncomputable section
open Go.Proofs Go.RowKit
def bi:Rn 31 a31:=rn
section
variable{s U p F O:List UInt8}{T K j:Tr}{ts:List Tk}{w:Bool}{i V H:Int}{W:Nat}
section
variable(r:K.kind=11)
include r
def tF:List Stp:=[sp 0 (Hl s T ts w),sp 0 (BQ K),sp 2 (BX K),sp 1 (Dr .i64 r)]
theorem d31a(a:i<0):EvE 31 [srV s T ts w,K.pv,.vptr (I i),.vptr (.str s)] (no5 (I 2)):=
 rule bi (tF (T:=T) (s:=s) (ts:=ts) (w:=w) r++[sp 2 (AZ .i64 a)])
section
variable(z:¬i<0)(x:K.wf)
include z x
def tC:List Stp:=tF (T:=T) (s:=s) (ts:=ts) (w:=w) r++[sp 2 (Bh .i64 z),sq 2 (DI K),sg 0 (Q (EE K)),sq 0 (EZ x)]
theorem d31b(a:i>=(K.kids.length:Int)):EvE 31 [srV s T ts w,K.pv,.vptr (I i),.vptr (.str s)] (no5 (I 2)):=
 rule bi (tC (T:=T) (s:=s) (ts:=ts) (w:=w) r z x++[sq 0 (Gi .i64 a)])
section
variable(A:¬i>=(K.kids.length:Int))(l:i=(W:Int))(k:K.kids[W]?=some j)(D:BM (.ssl true false) [.str s,I j.en] (.str U))
include A l k D
def XW:List Stp:=tC (T:=T) (s:=s) (ts:=ts) (w:=w) r z x++[sq 0 (Im .i64 A),sp 2 (DI K),st 0 (Q (EE K)),sp 1 (l▸EL W x k),st 0 (Q (AL j)),sp 1 (BD j),sp 0 (DD j),sp 1 (FV j),sp 5 (FV j),sp 1 D]
section
variable(M:EvE 32 [.str U,.str [10]] (.tuple [.str p,.str F,.bool true]))(G:EvE 22 [srV s T ts w,j.pv] (.bool true))(J:EvE 33 [.str p,.str [9,13,32]] (.str O))
include M G J
def tu:List Stp:=XW (T:=T) (ts:=ts) (w:=w) r z x A l k D++[st 0 (oC M),st 7 (Q (Gz s T ts w)),st 0 (Q (AL j)),st 0 (oC G),sg 3 (oC J)]
theorem d31c(d:O=([]:List UInt8))(c:EvE 34 [.str s,I j.st] (I V))(b:BM (.bin .add 0) [I j.en,N p.length] (I H)){a:Int}(a11:BM (.bin .add 0) [I H,I 1] (I a)):EvE 31 [srV s T ts w,K.pv,.vptr (I i),.vptr (.str s)] (.tuple [.agg [I V,I a,.str []],I 0]):=
 rule bi (tu r z x A l k D M G J++[sq 0 (Nu d),sp 3 (DD j),st 1 (oC c),sp 0 (FV j),sp 3 b,sp 8 a11])
theorem d31d(a:O≠([]:List UInt8)):EvE 31 [srV s T ts w,K.pv,.vptr (I i),.vptr (.str s)] (.tuple [.agg [I j.st,I j.en,.str []],I 0]):=
 rule bi (tu r z x A l k D M G J++[sq 0 (UN a)])
end
theorem d31e(a:EvE 32 [.str U,.str [10]] (.tuple [.str p,.str F,.bool true]))(b:EvE 22 [srV s T ts w,j.pv] (.bool false)):EvE 31 [srV s T ts w,K.pv,.vptr (I i),.vptr (.str s)] (.tuple [.agg [I j.st,I j.en,.str []],I 0]):=
 rule bi (XW (T:=T) (ts:=ts) (w:=w) r z x A l k D++[st 0 (oC a),st 7 (Q (Gz s T ts w)),st 0 (Q (AL j)),st 0 (oC b)])
section
variable(M:EvE 32 [.str U,.str [10]] (.tuple [.str p,.str F,.bool false]))(G:EvE 22 [srV s T ts w,j.pv] (.bool true))(J:EvE 33 [.str p,.str [9,13,32]] (.str O))
include M G J
def tq:List Stp:=XW (T:=T) (ts:=ts) (w:=w) r z x A l k D++[st 0 (oC M),st 7 (Q (Gz s T ts w)),st 0 (Q (AL j)),st 0 (oC G),sg 3 (oC J)]
theorem d31f(c:O=([]:List UInt8))(b:EvE 34 [.str s,I j.st] (I V))(a:BM (.bin .add 0) [I j.en,N p.length] (I H)):EvE 31 [srV s T ts w,K.pv,.vptr (I i),.vptr (.str s)] (.tuple [.agg [I V,I H,.str []],I 0]):=
 rule bi (tq r z x A l k D M G J++[sq 0 (Nu c),sp 3 (DD j),st 1 (oC b),sp 0 (FV j),sp 3 a])
theorem d31g(a:O≠([]:List UInt8)):EvE 31 [srV s T ts w,K.pv,.vptr (I i),.vptr (.str s)] (.tuple [.agg [I j.st,I j.en,.str []],I 0]):=
 rule bi (tq r z x A l k D M G J++[sq 0 (UN a)])
end
theorem d31h(a:EvE 32 [.str U,.str [10]] (.tuple [.str p,.str F,.bool false]))(b:EvE 22 [srV s T ts w,j.pv] (.bool false)):EvE 31 [srV s T ts w,K.pv,.vptr (I i),.vptr (.str s)] (.tuple [.agg [I j.st,I j.en,.str []],I 0]):=
 rule bi (XW (T:=T) (ts:=ts) (w:=w) r z x A l k D++[st 0 (oC a),st 7 (Q (Gz s T ts w)),st 0 (Q (AL j)),st 0 (oC b)])
end
end
end
def d31i(a:K.kind≠11):EvE 31 [srV s T ts w,K.pv,.vptr (I i),.vptr (.str s)] (no5 (I 5)):=
 rule bi [sp 0 (Hl s T ts w),sp 0 (BQ K),sp 2 (BX K),sp 1 (C8 .i64 a)]
end
end
noncomputable section
open Go.Proofs Go.RowKit
def qm:Rn 18 a18:=rn
def bq:Rn 19 a19:=rn
def RV7:Rn 7 a7:=rn
def RX9:Rn 9 a9:=rn
def RV12:Rn 12 a12:=rn
section
variable{s t aa s9 A H:List UInt8}{T K Y k:Tr}{ts:List Tk}{X:PV}{p:List Int}{g:FuncId}{cs:List PV}{a b z3 z5 i z6 z7 ad z9 z1:Int}{q5:Sto}{w:Bool}{ab:Nat}
section
variable(J:KI X p)(W:EvE 56 [.str s,T.pv] (.tuple [srV s T ts false,.bool true]))(r:EvE 49 [T.pv,X] (.tuple [K.pv,.bool true]))(e3:Bt pur run (.w .DC) [.func g [] cs,srV s T ts false,K.pv] [] [some (.tuple [.agg [I a,I b,.str t],I z3])] [])
include J W r e3
def sZ:List Stp:=[sp 0 (BQ T),st 3 (Q (AL T)),st 0 (oC W),sp 1 (jW s T ts false true),sp 2 (ja s T ts false),st 8 (Q (AL T)),sp 0 J.mv,st 0 (oC r (by simp[J.fr,J.fl,J.di]<;>first | rfl | exact⟨rfl,rfl⟩)),sp 1 (ex0 K (.bool true)),sp 0 (ex1 K (.bool true)),sp 1 (BD K),st 5 (Q (Gz s T ts false)),st 0 (Q (AL K)),st 0 e3]
section
variable(D:z3=0)(e5:E 58 [.str s,slF 3 [.agg [I a,I b,.str t]]] [] (.tuple [.str aa,I z5]) q5)
include D e5
def iV:List Stp:=sZ J W r e3++[sp 7 (Dr .i64 D),st 4 (oC e5)]
theorem eda(d:z5=0)(c:(aa.length:Int) > 4096):EvE 18 [.str s,T.pv,X,.func g [] cs] (no5 (I 8)):=
 rule qm (iV J W r e3 D e5++[sp 6 (Dr .i64 d),sq 3 (CF .i64 c)])
theorem edb(d:z5=0)(c:¬(aa.length:Int) > 4096):EvE 18 [.str s,T.pv,X,.func g [] cs] (.tuple [.agg [I a,I b,.str t],I 0]):=
 rule qm (iV J W r e3 D e5++[sp 6 (Dr .i64 d),sq 3 (Cz .i64 c)])
theorem edc(c:z5≠0):EvE 18 [.str s,T.pv,X,.func g [] cs] (no5 (I 8)):=
 rule qm (iV J W r e3 D e5++[sp 6 (C8 .i64 c)])
end
theorem edd(c:z3≠0):EvE 18 [.str s,T.pv,X,.func g [] cs] (no5 (I z3)):=
 rule qm (sZ J W r e3++[sp 7 (C8 .i64 c)])
end
def edwa(d:KI X p)(c:EvE 56 [.str s,T.pv] (.tuple [srV s T ts true,.bool true])):EvE 18 [.str s,T.pv,X,.func g [] cs] (no5 (I 1)):=
 rule qm [sp 0 (BQ T),st 3 (Q (AL T)),st 0 (oC c),sp 1 (jW s T ts true true),sp 2 (ja s T ts true)]
def edga(c:KI X p)(d:EvE 56 [.str s,T.pv] (.tuple [srV s T ts false,.bool true]))(e:EvE 49 [T.pv,X] (.tuple [.agg [I 0,.str [],I 0,I 0,.nils],.bool false])):EvE 18 [.str s,T.pv,X,.func g [] cs] (no5 (I 7)):=
 rule qm [sp 0 (BQ T),st 3 (Q (AL T)),st 0 (oC d),sp 1 (jW s T ts false true),sp 2 (ja s T ts false),st 8 (Q (AL T)),sp 0 c.mv,st 0 (oC e (by simp[c.fr,c.fl,c.di]<;>first | rfl | exact⟨rfl,rfl⟩))]
section
variable(F:K.kind=11)(r:EvE 20 [Y.pv] (.bool true))
include F r
def sW:List Stp:=[sp 0 (Hl s T ts w),sp 0 (BQ K),sp 2 (BX K),sp 1 (Dr .i64 F),sg 1 (Q (AL Y)),sg 0 (oC r)]
theorem ina(c:i<0):EvE 19 [srV s T ts w,K.pv,.vptr Y.pv,.vptr (I i),.vptr (.str s)] (no5 (I 2)):=
 rule bq (sW (T:=T) (s:=s) (ts:=ts) (w:=w) F r++[sp 4 (AZ .i64 c)])
section
variable(G:¬i<0)(z:K.wf)
include G z
def sV:List Stp:=sW (T:=T) (s:=s) (ts:=ts) (w:=w) F r++[sp 4 (Bh .i64 G),sq 2 (DI K),sg 0 (Q (EE K)),sq 0 (EZ z)]
theorem inb(c:i>(K.kids.length:Int)):EvE 19 [srV s T ts w,K.pv,.vptr Y.pv,.vptr (I i),.vptr (.str s)] (no5 (I 2)):=
 rule bq (sV (T:=T) (s:=s) (ts:=ts) (w:=w) F r G z++[sq 0 (CF .i64 c)])
section
variable(D:¬i>(K.kids.length:Int))
include D
def sU:List Stp:=sV (T:=T) (s:=s) (ts:=ts) (w:=w) F r G z++[sq 0 (Cz .i64 D),sp 2 (DI K),st 0 (Q (EE K)),sp 0 (EZ z)]
theorem inc(f:(K.kids.length:Int)=0){c:List UInt8}(j:EvE 21 [srV s T ts w,Y.pv,I K.st] (.tuple [.str c,I z6]))(a7:BM (.bin .add 0) [I K.st,I 1] (I z7)){d:Int}(e:BM (.bin .add 0) [I K.st,I 1] (I d))(h:([32]:List UInt8).length+(c:List UInt8).length<=CL):EvE 19 [srV s T ts w,K.pv,.vptr Y.pv,.vptr (I i),.vptr (.str s)] (.tuple [.agg [I z7,I d,.str ([32]++c)],I z6]):=
 rule bq (sU (T:=T) (s:=s) (ts:=ts) (w:=w) F r G z D++[sp 0 (Bz .i64 f),st 1 (Q (Gz s T ts w)),st 0 (Q (AL Y)),sp 0 (DD K),st 1 (oC j),sp 5 (DD K),sp 1 a7,sp 0 (DD K),sp 1 e,sp 1 (Es h)])
section
variable(V:(K.kids.length:Int)≠0)(a6:BM (.bin .sub 0) [N K.kids.length,I 1] (I z6))(a7:BM .min [I i,I z6] (I z7))(l:z7=(ab:Int))(x:K.kids[ab]?=some k)
include V a6 a7 l x
def sS:List Stp:=sU (T:=T) (s:=s) (ts:=ts) (w:=w) F r G z D++[sp 0 (Bb .i64 V),sp 1 (DI K),st 0 (Q (EE K)),sp 1 (DI K),st 0 (Q (EE K)),sp 0 (EZ z),sp 0 a6,sp 0 a7,sp 0 (l▸EL ab z x),st 0 (Q (AL k)),sp 1 (BD k),st 1 (Q (Gz s T ts w)),st 0 (Q (AL k))]
section
variable(e8:EvE 22 [srV s T ts w,k.pv] (.bool true))(M:EvE 23 [.str s,I k.st] (.str s9))(O:([10]:List UInt8).length+(s9:List UInt8).length<=CL)(U:EvE 21 [srV s T ts w,Y.pv,I k.st] (.tuple [.str A,I ad]))
include e8 M O U
def sQ:List Stp:=sS (T:=T) (s:=s) (ts:=ts) (w:=w) F r G z D V a6 a7 l x++[st 0 (oC e8),sp 2 (DD k),st 1 (oC M),sp 0 (Es O),st 1 (Q (Gz s T ts w)),st 0 (Q (AL Y)),sp 0 (DD k),st 1 (oC U),sp 6 (DI K),st 0 (Q (EE K)),sp 0 (EZ z)]
theorem ind(d:i<(K.kids.length:Int))(c:(A:List UInt8).length+(([10]++s9):List UInt8).length<=CL):EvE 19 [srV s T ts w,K.pv,.vptr Y.pv,.vptr (I i),.vptr (.str s)] (.tuple [.agg [I k.st,I k.st,.str (A++([10]++s9))],I ad]):=
 rule bq (sQ F r G z D V a6 a7 l x e8 M O U++[sp 0 (AZ .i64 d),sp 1 (DD k),sp 1 (DD k),sp 3 (Es c)])
theorem ine(d:¬i<(K.kids.length:Int))(c:(([10]++s9):List UInt8).length+(A:List UInt8).length<=CL):EvE 19 [srV s T ts w,K.pv,.vptr Y.pv,.vptr (I i),.vptr (.str s)] (.tuple [.agg [I k.en,I k.en,.str (([10]++s9)++A)],I ad]):=
 rule bq (sQ F r G z D V a6 a7 l x e8 M O U++[sp 0 (Bh .i64 d),sp 1 (FV k),sp 1 (FV k),sp 3 (Es c)])
end
section
variable(e8:EvE 22 [srV s T ts w,k.pv] (.bool false))(M:EvE 21 [srV s T ts w,Y.pv,I k.st] (.tuple [.str H,I z9]))
include e8 M
def sP:List Stp:=sS (T:=T) (s:=s) (ts:=ts) (w:=w) F r G z D V a6 a7 l x++[st 0 (oC e8),st 1 (Q (Gz s T ts w)),st 0 (Q (AL Y)),sp 0 (DD k),st 1 (oC M),sp 6 (DI K),st 0 (Q (EE K)),sp 0 (EZ z)]
theorem inf(c:i<(K.kids.length:Int))(d:(H:List UInt8).length+([32]:List UInt8).length<=CL):EvE 19 [srV s T ts w,K.pv,.vptr Y.pv,.vptr (I i),.vptr (.str s)] (.tuple [.agg [I k.st,I k.st,.str (H++[32])],I z9]):=
 rule bq (sP F r G z D V a6 a7 l x e8 M++[sp 0 (AZ .i64 c),sp 1 (DD k),sp 1 (DD k),sp 3 (Es d)])
theorem ing(c:¬i<(K.kids.length:Int))(d:([32]:List UInt8).length+(H:List UInt8).length<=CL):EvE 19 [srV s T ts w,K.pv,.vptr Y.pv,.vptr (I i),.vptr (.str s)] (.tuple [.agg [I k.en,I k.en,.str ([32]++H)],I z9]):=
 rule bq (sP F r G z D V a6 a7 l x e8 M++[sp 0 (Bh .i64 c),sp 1 (FV k),sp 1 (FV k),sp 3 (Es d)])
end
end
end
end
end
def inh(c:K.kind=11)(d:EvE 20 [Y.pv] (.bool false)):EvE 19 [srV s T ts w,K.pv,.vptr Y.pv,.vptr (I i),.vptr (.str s)] (no5 (I 5)):=
 rule bq [sp 0 (Hl s T ts w),sp 0 (BQ K),sp 2 (BX K),sp 1 (Dr .i64 c),sg 1 (Q (AL Y)),sg 0 (oC d)]
def ini(c:K.kind≠11):EvE 19 [srV s T ts w,K.pv,.vptr Y.pv,.vptr (I i),.vptr (.str s)] (no5 (I 5)):=
 rule bq [sp 0 (Hl s T ts w),sp 0 (BQ K),sp 2 (BX K),sp 1 (C8 .i64 c)]
def ed7a(c:KI X p)(d:EvE 18 [.str s,T.pv,X,.func 19 [] [.vptr Y.pv,.vptr (I i),.vptr (.str s)]] (.tuple [.agg [I a,I b,.str t],I z1])):EvE 7 [.str s,T.pv,X,I i,Y.pv] (.tuple [.agg [I a,I b,.str t],I z1]):=
 rule RV7 [sp 1 (BQ T),sp 1 (BQ Y),st 3 (Q (AL T)),sp 0 c.mv,st 1 (oC d (by simp[c.fr,c.fl,c.di]<;>first | rfl | exact⟨rfl,rfl⟩))]
def ed9a(c:KI X p)(d:EvE 18 [.str s,T.pv,X,.func 31 [] [.vptr (I i),.vptr (.str s)]] (.tuple [.agg [I a,I b,.str t],I z1])):EvE 9 [.str s,T.pv,X,I i] (.tuple [.agg [I a,I b,.str t],I z1]):=
 rule RX9 [sp 1 (BQ T),st 4 (Q (AL T)),sp 0 c.mv,st 1 (oC d (by simp[c.fr,c.fl,c.di]<;>first | rfl | exact⟨rfl,rfl⟩))]
def BVA(c:KI X p)(d:EvE 18 [.str s,T.pv,X,.func 46 [] [.vptr T.pv,.vptr X,.vptr Y.pv]] (.tuple [.agg [I a,I b,.str t],I z1])):EvE 12 [.str s,T.pv,X,Y.pv] (.tuple [.agg [I a,I b,.str t],I z1]):=
 rule RV12 [sp 0 (BQ T),sp 0 c.bx,sp 0 (BQ Y),st 3 (Q (AL T)),st 0 (Q c.ld),st 1 (oC d (by simp[c.fr,c.fl,c.di]<;>first | rfl | exact⟨rfl,rfl⟩))]
end
end
end Go.Abs.Z

namespace Go.Abs.Z
open Go.Proofs Go.RowKit
def lW{o n:List UInt8}(e:Cl n):∀(k:Nat) (s:List UInt8),Cl s->Cl (Lib.replaceK o n k s)/\(Lib.replaceK o n k s).length<=s.length+k * n.length
 |0,s,h=>⟨h,Nat.le_add_right ..⟩
 |k+1,s,h=>by
  rw[Lib.replaceK];split
  ·exact⟨h,Nat.le_add_right ..⟩
  ·obtain⟨f,g⟩:=lW (o:=o) e k (s.drop ((Lib.index s o).toNat+o.length)) λc d=>h c (List.mem_of_mem_drop d)
   refine⟨EW (EW (λc d=>h c (List.mem_of_mem_take d)) e) f,?_⟩
   rw[Ae,Ae,AA];rw[Aw] at g;rw[BU];omega
def w62{s n:List UInt8}(h:s.length<=4096)(f:n.length<=500)(cs:Cl s)(e:Cl n):∃r,E 62 [.str s,.str [10],.str n] [] (.str r) []/\Cl r/\r.length<=3000000:=by
 refine⟨Lib.replaceAll s [10] n,FC 0 λm _=>?_,?_⟩
 ·show eU (run m) [.str s,.str [10],.str n] []=_;unfold eU;exact if_pos ⟨am,by decide,am⟩
 ·unfold Lib.replaceAll Lib.replace;split
  ·exact⟨cs,am⟩
  ·obtain⟨b,d⟩:=lW (o:=[10]) e (Lib.replaceNum s [10] (-1)) s cs;refine⟨b,?_⟩
   have g:Lib.replaceNum s [10] (-1)<=s.length:=by
    have:=Lib.countB_mul_le ⟨#[10]⟩ (Ai 1) _ ⟨s.toArray⟩ (Ai _);have b:Lib.replaceNum s [10] (-1)=Lib.count s [10]:=if_pos (.inl (by decide))
    have d:(ByteArray.mk s.toArray).size=s.length:=rfl;rw[b];simp only[Lib.countB,d] at this;have c:(ByteArray.mk #[10]).size=1:=rfl;rw[c] at this;simpa using this
   have c:Lib.replaceNum s [10] (-1) * n.length<=4096 * 500:=Nat.mul_le_mul am f
   omega
def w21{s:List UInt8}{T Y:Tr}{ts:List Tk}{w:Bool}(k:s.length<=400)(i:Bnd Y)(z:Int):∃r e,E 21 [srV s T ts w,Y.pv,I z] [] (.tuple [.str r,I e]) []/\Cl r/\r.length<=3000000:=by
 obtain⟨t,e,a,f,c⟩:=w61 i;obtain⟨u,g,c2,j⟩:=w23 s am z
 obtain⟨r,d,h,b⟩:=w62 (n:=[10]++u) c (by simp;omega) f (EW (UD (by decide)) c2)
 exact⟨r,e,BUY a g (by simp[CL];omega) d,h,b⟩
end Go.Abs.Z

namespace Go.Abs.Z
noncomputable section
open Go.Proofs Go.RowKit
def bg:Rn 46 a46:=rn
section
variable{s x:List UInt8}{T K Y U V:Tr}{ts:List Tk}{w l:Bool}{Z z:PV}{p M:List Int}{F H:Int}
section
variable(r:KI Z p)(D:K.kind>=20)(A:K.kind<=29)(G:EvE 47 [T.pv,Z,Y.pv] (.tuple [V.pv,.bool true]))
include r D A G
def XV:List Stp:=[sp 0 (Hl s T ts w),sp 0 (BQ K),sp 2 (BX K),sp 1 (Gi .i64 D),sq 1 (BX K),sq 1 (KW .i64 A),st 15 (Q (AL T)),st 0 (Q r.ld),st 0 (Q (AL Y)),st 0 (oC G (by simp[r.fr,r.fl,r.di]<;>first | rfl | exact⟨rfl,rfl⟩)),sp 1 (ex0 V (.bool true)),sp 0 (ex1 V (.bool true)),sp 1 (BD V),st 7 (Q r.ld),sp 0 r.len]
theorem rpa(b:p.length<1000000000)(a:1<=p.length)(g:BM (.vsl 1 false true) [Z,N (p.length - 1)] z)(f:KI z M)(k:EvE 49 [T.pv,z] (.tuple [U.pv,.bool l]))(m:EvE 50 [Y.pv] (.tuple [.str x,I F]))(i:F=0)(h:BM (.idx 1) [Z,N (p.length - 1)] (.vptr (I H)))(j:EvE 51 [U.pv,I H,Y.pv] (.bool true))(d:EvE 52 [srV s T ts w,U.pv,K.pv] (.bool true)){c:List UInt8}(e:EvE 48 [srV s T ts w,I K.st,I K.en,.str x] (.str c)):EvE 46 [srV s T ts w,K.pv,.vptr T.pv,.vptr Z,.vptr Y.pv] (.tuple [.agg [I K.st,I K.en,.str c],I 0]):=
 rule bg (XV (s:=s) (ts:=ts) (w:=w) r D A G++[sp 0 (Fb p.length 1 a am),st 1 (Q (AL T)),st 0 (Q r.ld),sp 1 g,st 0 (oC k (by simp[f.fr,f.fl,f.di]<;>first | rfl | exact⟨rfl,rfl⟩)),sp 1 (ex0 U (.bool l)),sp 0 (ex1 U (.bool l)),sp 1 (BD U),st 1 (Q (AL Y)),st 0 (oC m),sp 6 (Dr .i64 i),st 1 (Q (AL U)),st 0 (Q r.ld),sp 1 h,st 1 (Q (AL Y)),st 0 (oC j),sg 1 (Q (Gz s T ts w)),sg 0 (Q (AL U)),sg 0 (Q (AL K)),sg 0 (oC d),sp 3 (DD K),sp 1 (FV K),st 1 (Q (Gz s T ts w)),sp 0 (DD K),sp 1 (FV K),st 2 (oC e)])
theorem rpb(b:p.length<1000000000)(a:1<=p.length)(j:BM (.vsl 1 false true) [Z,N (p.length - 1)] z)(f:KI z M)(m:EvE 49 [T.pv,z] (.tuple [U.pv,.bool l]))(i:EvE 50 [Y.pv] (.tuple [.str x,I F]))(k:F=0)(o:BM (.idx 1) [Z,N (p.length - 1)] (.vptr (I H)))(n:EvE 51 [U.pv,I H,Y.pv] (.bool true))(g:EvE 52 [srV s T ts w,U.pv,K.pv] (.bool false))(h:([40]:List UInt8).length+(x:List UInt8).length<=CL)(e:(([40]++x):List UInt8).length+([41]:List UInt8).length<=CL){c:List UInt8}(d:EvE 48 [srV s T ts w,I K.st,I K.en,.str (([40]++x)++[41])] (.str c)):EvE 46 [srV s T ts w,K.pv,.vptr T.pv,.vptr Z,.vptr Y.pv] (.tuple [.agg [I K.st,I K.en,.str c],I 0]):=
 rule bg (XV (s:=s) (ts:=ts) (w:=w) r D A G++[sp 0 (Fb p.length 1 a am),st 1 (Q (AL T)),st 0 (Q r.ld),sp 1 j,st 0 (oC m (by simp[f.fr,f.fl,f.di]<;>first | rfl | exact⟨rfl,rfl⟩)),sp 1 (ex0 U (.bool l)),sp 0 (ex1 U (.bool l)),sp 1 (BD U),st 1 (Q (AL Y)),st 0 (oC i),sp 6 (Dr .i64 k),st 1 (Q (AL U)),st 0 (Q r.ld),sp 1 o,st 1 (Q (AL Y)),st 0 (oC n),sg 1 (Q (Gz s T ts w)),sg 0 (Q (AL U)),sg 0 (Q (AL K)),sg 0 (oC g),sp 4 (Es h),sp 0 (Es e),sp 1 (DD K),sp 1 (FV K),st 1 (Q (Gz s T ts w)),sp 0 (DD K),sp 1 (FV K),st 2 (oC d)])
theorem rpc(b:p.length<1000000000)(a:1<=p.length)(h:BM (.vsl 1 false true) [Z,N (p.length - 1)] z)(e:KI z M)(i:EvE 49 [T.pv,z] (.tuple [U.pv,.bool l]))(f:EvE 50 [Y.pv] (.tuple [.str x,I F]))(j:F=0)(g:BM (.idx 1) [Z,N (p.length - 1)] (.vptr (I H)))(k:EvE 51 [U.pv,I H,Y.pv] (.bool false)){c:List UInt8}(d:EvE 48 [srV s T ts w,I K.st,I K.en,.str x] (.str c)):EvE 46 [srV s T ts w,K.pv,.vptr T.pv,.vptr Z,.vptr Y.pv] (.tuple [.agg [I K.st,I K.en,.str c],I 0]):=
 rule bg (XV (s:=s) (ts:=ts) (w:=w) r D A G++[sp 0 (Fb p.length 1 a am),st 1 (Q (AL T)),st 0 (Q r.ld),sp 1 h,st 0 (oC i (by simp[e.fr,e.fl,e.di]<;>first | rfl | exact⟨rfl,rfl⟩)),sp 1 (ex0 U (.bool l)),sp 0 (ex1 U (.bool l)),sp 1 (BD U),st 1 (Q (AL Y)),st 0 (oC f),sp 6 (Dr .i64 j),st 1 (Q (AL U)),st 0 (Q r.ld),sp 1 g,st 1 (Q (AL Y)),st 0 (oC k),sp 8 (DD K),sp 1 (FV K),st 1 (Q (Gz s T ts w)),sp 0 (DD K),sp 1 (FV K),st 2 (oC d)])
theorem rpd(b:p.length<1000000000)(a:1<=p.length)(g:BM (.vsl 1 false true) [Z,N (p.length - 1)] z)(c:KI z M)(f:EvE 49 [T.pv,z] (.tuple [U.pv,.bool l]))(d:EvE 50 [Y.pv] (.tuple [.str x,I F]))(e:F≠0):EvE 46 [srV s T ts w,K.pv,.vptr T.pv,.vptr Z,.vptr Y.pv] (no5 (I F)):=
 rule bg (XV (s:=s) (ts:=ts) (w:=w) r D A G++[sp 0 (Fb p.length 1 a am),st 1 (Q (AL T)),st 0 (Q r.ld),sp 1 g,st 0 (oC f (by simp[c.fr,c.fl,c.di]<;>first | rfl | exact⟨rfl,rfl⟩)),sp 1 (ex0 U (.bool l)),sp 0 (ex1 U (.bool l)),sp 1 (BD U),st 1 (Q (AL Y)),st 0 (oC d),sp 6 (C8 .i64 e)])
end
def rpe(a:KI Z p)(b:K.kind>=20)(c:K.kind<=29)(d:EvE 47 [T.pv,Z,Y.pv] (.tuple [V.pv,.bool false])):EvE 46 [srV s T ts w,K.pv,.vptr T.pv,.vptr Z,.vptr Y.pv] (no5 (I 5)):=
 rule bg [sp 0 (Hl s T ts w),sp 0 (BQ K),sp 2 (BX K),sp 1 (Gi .i64 b),sq 1 (BX K),sq 1 (KW .i64 c),st 15 (Q (AL T)),st 0 (Q a.ld),st 0 (Q (AL Y)),st 0 (oC d (by simp[a.fr,a.fl,a.di]<;>first | rfl | exact⟨rfl,rfl⟩)),sp 1 (ex0 V (.bool false)),sp 0 (ex1 V (.bool false)),sp 1 (BD V)]
def rpg(e:KI Z p)(a:K.kind>=20)(d:¬K.kind<=29)(b:¬K.kind<12)(c:K.kind>19):EvE 46 [srV s T ts w,K.pv,.vptr T.pv,.vptr Z,.vptr Y.pv] (no5 (I 5)):=
 rule bg [sp 0 (Hl s T ts w),sp 0 (BQ K),sp 2 (BX K),sp 1 (Gi .i64 a),sq 1 (BX K),sq 1 (LC .i64 d),sq 5 (BX K),sq 1 (Bh .i64 b),sq 1 (BX K),sq 1 (CF .i64 c)]
def rpj(c:KI Z p)(a:¬K.kind>=20)(b:K.kind<12):EvE 46 [srV s T ts w,K.pv,.vptr T.pv,.vptr Z,.vptr Y.pv] (no5 (I 5)):=
 rule bg [sp 0 (Hl s T ts w),sp 0 (BQ K),sp 2 (BX K),sp 1 (Im .i64 a),sq 9 (BX K),sq 1 (AZ .i64 b)]
section
variable(r:KI Z p)(D:¬K.kind>=20)(A:¬K.kind<12)(J:¬K.kind>19)
include r D A J
def sO:List Stp:=[sp 0 (Hl s T ts w),sp 0 (BQ K),sp 2 (BX K),sp 1 (Im .i64 D),sq 9 (BX K),sq 1 (Bh .i64 A),sq 1 (BX K),sq 1 (Cz .i64 J),st 3 (Q (AL T)),st 0 (Q r.ld),st 0 (Q (AL Y))]
theorem rpl(d:EvE 47 [T.pv,Z,Y.pv] (.tuple [V.pv,.bool true])){a:List UInt8}{c:Int}(e:EvE 21 [srV s T ts w,Y.pv,I K.st] (.tuple [.str a,I c])){b:List UInt8}(f:EvE 48 [srV s T ts w,I K.st,I K.en,.str a] (.str b)):EvE 46 [srV s T ts w,K.pv,.vptr T.pv,.vptr Z,.vptr Y.pv] (.tuple [.agg [I K.st,I K.en,.str b],I c]):=
 rule bg (sO (T:=T) (Y:=Y) (s:=s) (ts:=ts) (w:=w) r D A J++[st 0 (oC d (by simp[r.fr,r.fl,r.di]<;>first | rfl | exact⟨rfl,rfl⟩)),sp 1 (ex0 V (.bool true)),sp 0 (ex1 V (.bool true)),sp 1 (BD V),st 7 (Q (Gz s T ts w)),st 0 (Q (AL Y)),sp 0 (DD K),st 1 (oC e),sp 5 (DD K),sp 1 (FV K),st 1 (Q (Gz s T ts w)),sp 0 (DD K),sp 1 (FV K),st 2 (oC f)])
theorem rpm(a:EvE 47 [T.pv,Z,Y.pv] (.tuple [V.pv,.bool false])):EvE 46 [srV s T ts w,K.pv,.vptr T.pv,.vptr Z,.vptr Y.pv] (no5 (I 5)):=
 rule bg (sO (T:=T) (Y:=Y) (s:=s) (ts:=ts) (w:=w) r D A J++[st 0 (oC a (by simp[r.fr,r.fl,r.di]<;>first | rfl | exact⟨rfl,rfl⟩)),sp 1 (ex0 V (.bool false)),sp 0 (ex1 V (.bool false)),sp 1 (BD V)])
end
end
end
end Go.Abs.Z

namespace Go.Abs.Z
open Go.Proofs Go.RowKit
structure GdE(s:List UInt8)(a b:Int)(t:List UInt8):Prop where
 qa:Qz s a
 qb:Qz s b
 le:a<=b
 cl:Cl t
 ln:t.length<=4000000
def Ed(s:List UInt8)(f:FuncId)(xs:List PV):Prop:=∃a b t z,E f xs [] (.tuple [.agg [I a,I b,.str t],I z]) []/\(z=0->GdE s a b t)
def J6{s:List UInt8}{f:FuncId}{xs:List PV}{z:Int}(h:E f xs [] (no5 (I z)) [])(a:z≠0):Ed s f xs:=⟨0,0,[],z,h,λe=>absurd e a⟩
structure KS(s:List UInt8)(K:Tr):Prop where
 w:K.wf
 n:K.kids.length<100000
 k:K.kind≠2->KN s K
 h:∀y∈K.kids,KN s y
section
variable{s:List UInt8}{T K Y:Tr}{ts:List Tk}{w:Bool}(hs:s.length<=400)(hK:KS s K)
include hs hK
theorem w19(x:Bnd Y)(i:Int):Ed s 19 [srV s T ts w,K.pv,.vptr Y.pv,.vptr (I i),.vptr (.str s)]:=by
 by_cases d:K.kind=11
 case neg=>exact J6 (ini d) (by decide)
 obtain⟨b,j,_⟩:=w20 x;cases b
 ·exact J6 (inh d j) (by decide)
 by_cases k:i<0
 ·exact J6 (ina d j k) (by decide)
 by_cases o:i>(K.kids.length:Int)
 ·exact J6 (inb d j k hK.w o) (by decide)
 have B:=hK.k am
 have L:100000000<=CL:=by decide
 by_cases v:(K.kids.length:Int)=0
 ·obtain⟨r,e,F,c,l⟩:=w21 (T:=T) (ts:=ts) (w:=w) hs x K.st;obtain⟨a,y,A,t⟩:=B.q.1;have D:=B.b d (Ak.1 am)
  have a7:AQ (.bin .add 0) [I K.st,.int .i64 1]=some [some (I (K.st+1))]:=by
   rw[y];exact AO a 1 am
  exact⟨_,_,_,e,inc d j k hK.w o v F a7 a7 (by simp;omega),λ_=>⟨D,D,Int.le_refl _,EW (UD (by decide)) c,by simp;omega⟩⟩
 ·have J:=hK.n;obtain⟨m,z⟩:∃m:Nat,i=m:=⟨i.toNat,am⟩
  subst z;have a6:=Fb K.kids.length 1 am am
  have a7:AQ .min [I (m:Nat),N (K.kids.length - 1)]=some [some (I ((min m (K.kids.length - 1):Nat):Int))]:=mr m _;have C:min m (K.kids.length - 1) < K.kids.length:=am
  have n:=Af C;generalize K.kids[min m (K.kids.length - 1)]'C=U at n;have g:=hK.h U (Am n);obtain⟨a,y,A,t⟩:=g.q.1;obtain⟨b,e8⟩:=w22 (T:=T) (ts:=ts) (w:=w) (show s.length<1000000000 by omega) y t
  obtain⟨r,e,f,c,l⟩:=w21 (T:=T) (ts:=ts) (w:=w) hs x U.st;obtain⟨u,E,G,H⟩:=w23 s am U.st
  have q:Cl ([10]++u):=EW (UD (by decide)) G
  have p:Cl [32]:=UD (by decide)
  cases b
  ·by_cases h:(m:Int) < (K.kids.length:Int)
   ·exact⟨_,_,_,e,inf d j k hK.w o v a6 a7 rfl n e8 f h (by simp;omega),λ_=>⟨g.q.1,g.q.1,Int.le_refl _,EW c p,by simp;omega⟩⟩
   ·exact⟨_,_,_,e,ing d j k hK.w o v a6 a7 rfl n e8 f h (by simp;omega),λ_=>⟨g.q.2,g.q.2,Int.le_refl _,EW p c,by simp;omega⟩⟩
  ·by_cases h:(m:Int) < (K.kids.length:Int)
   ·exact⟨_,_,_,e,ind d j k hK.w o v a6 a7 rfl n e8 E (by simp;omega) f h (by simp;omega),λ_=>⟨g.q.1,g.q.1,Int.le_refl _,EW c q,by simp;omega⟩⟩
   ·exact⟨_,_,_,e,ine d j k hK.w o v a6 a7 rfl n e8 E (by simp;omega) f h (by simp;omega),λ_=>⟨g.q.2,g.q.2,Int.le_refl _,EW q c,by simp;omega⟩⟩
theorem w31(i:Int):Ed s 31 [srV s T ts w,K.pv,.vptr (I i),.vptr (.str s)]:=by
 by_cases e:K.kind=11
 case neg=>exact J6 (d31i e) (by decide)
 by_cases f:i<0
 ·exact J6 (d31a e f) (by decide)
 by_cases l:i>=(K.kids.length:Int)
 ·exact J6 (d31b e f hK.w l) (by decide)
 obtain⟨m,B⟩:∃m:Nat,i=m:=⟨i.toNat,am⟩
 subst B;have j:=Af (show m<K.kids.length by omega)
 generalize K.kids[m]'am=U at j
 have n:=hK.h U (Am j);obtain⟨a,L,M,q⟩:=n.q.1;obtain⟨b,J,C,z⟩:=n.q.2;have P:=n.le;have k:=SC s b z;rw[show(N b:PV)=I U.en by rw[J]] at k
 obtain⟨r,u,A,o,D⟩:=w32 (s.drop b) (by rw[Aw];omega)
 obtain⟨x,p⟩:=w22 (T:=T) (ts:=ts) (w:=w) (show s.length<1000000000 by omega) L q
 have d:GdE s U.st U.en []:=⟨n.q.1,n.q.2,n.le,Fy,by simp⟩
 have Q:r.length<=s.length - b:=by
  rcases D with⟨_,rfl⟩ | ⟨_,h⟩
  ·rw[Aw];omega
  ·have:=congrArg List.length h;rw[Aw,Ae,Ah] at this;omega
 cases x
 ·cases A
  ·exact⟨_,_,_,0,d31h e f hK.w l rfl j k o p,λ_=>d⟩
  ·exact⟨_,_,_,0,d31e e f hK.w l rfl j k o p,λ_=>d⟩
 ·obtain⟨v,y,O⟩:=w33 r am
  have E:=e28 (s:=s) (show s.length<1000000000 by omega) q
  rw[show(N a:PV)=I U.st by rw[L]] at E
  have t:AQ (.bin .add 0) [I U.en,N r.length]=some [some (I ((b+r.length:Nat):Int))]:=by
   rw[J];exact AO b r.length am am
  have H:Qz s ((lst s a:Nat):Int):=⟨_,rfl,wE s a,by have:=QF s a;omega⟩
  have R:=QF s a;by_cases c:v=[]
  ·have G:=O c
   have F:NC s (b+r.length):=ZW C am (by
    rw[EM];rcases D with⟨_,rfl⟩ | ⟨_,h⟩
    ·rw[FJ];exact G
    ·rw[h,List.take_left];exact G)
   cases A
   ·exact⟨_,_,_,0,d31f e f hK.w l rfl j k o p y c E t,λ_=>⟨H,⟨_,rfl,F,am⟩,am,Fy,by simp⟩⟩
   ·have h:s.drop b=r++10::u:=by
     rcases D with⟨h,_⟩ | ⟨_,h⟩
     ·cases h
     ·exact h
    have S:=congrArg List.length h;rw[Aw,Ae,Ah] at S
    have g:s[b+r.length]?=some 10:=by
     rw[<-CY,h,Aq (Ai _),E5];rfl
    exact⟨_,_,_,0,d31c e f hK.w l rfl j k o p y c E t (AO (b+r.length) 1 am),λ_=>⟨H,⟨_,rfl,AkQ g,am⟩,am,Fy,by simp⟩⟩
  ·cases A
   ·exact⟨_,_,_,0,d31g e f hK.w l rfl j k o p y c,λ_=>d⟩
   ·exact⟨_,_,_,0,d31d e f hK.w l rfl j k o p y c,λ_=>d⟩
end
def yA:∀(p:List Int) (T K:Tr),T.at_ p=some K->∀i∈p,0<=i
 |[],T,K,h=>λi hi=>by cases hi
 |j::p,T,K,h=>λi hi=>by
  rw[Tr.at_] at h
  split at h
  ·cases h
  ·split at h
   ·rcases AU.1 hi with rfl | hi
    ·omega
    ·exact yA p _ K h i hi
   ·cases h
def w46{s:List UInt8}{T K Y:Tr}{ts:List Tk}{w:Bool}{Z:PV}{p:List Int}(hs:s.length<=400)(v:Fit s ts)(hK:KS s K)(d:KI Z p)(hp:p.length<=20)(W:Few T)(hn:T.nds.length<=300000)(h2:T.kind=2)(R:Bnd Y)(J:T.at_ p=some K):
  Ed s 46 [srV s T ts w,K.pv,.vptr T.pv,.vptr Z,.vptr Y.pv]:=by
 obtain⟨V,b,j⟩:=w47 d am W hn R
 have hm:100000000<=CL:=by decide
 have S:¬(K.kind>=20/\K.kind<=29)->Ed s 46 [srV s T ts w,K.pv,.vptr T.pv,.vptr Z,.vptr Y.pv]:=λP=>by
  by_cases f:K.kind>=20
  ·have i:¬K.kind<=29:=λg=>P ⟨f,g⟩
   exact J6 (rpg d f i am am) (by decide)
  ·by_cases i:K.kind<12
   ·exact J6 (rpj d f i) (by decide)
   ·have g3:¬K.kind>19:=am
    cases b
    ·exact J6 (rpm d f i g3 j) (by decide)
    ·obtain⟨r,e,o,c,l⟩:=w21 (T:=T) (ts:=ts) (w:=w) hs R K.st;obtain⟨u,k,n,D⟩:=w48 (T:=T) (w:=w) v K.st K.en am r c am
     have a:=hK.k am
     exact⟨_,_,_,e,rpl d f i g3 j o k,λ_=>⟨a.q.1,a.q.2,a.le,n,am⟩⟩
 by_cases he:K.kind>=20/\K.kind<=29
 case neg=>exact S he
 obtain⟨f,i⟩:=he;cases b
 ·exact J6 (rpe d f i j) (by decide)
 have a:=hK.k am
 have Q:p≠[]:=by
  intro h;rw[h] at J;cases J;omega
 have H:1<=p.length:=Cv.2 Q;obtain⟨X,C,A⟩:=d.tk (k:=p.length - 1) am
 have L:=Af (show p.length - 1<p.length by omega)
 have G:=d.idx L;have M:=yA p T K J _ (Am L);generalize p[p.length - 1]'am=q at G L M
 obtain⟨m,rfl⟩:∃m:Nat,q=m:=⟨q.toNat,am⟩
 obtain⟨U,l,F⟩:∃(U:Tr) (l:Bool),E 49 [T.pv,X] [] (.tuple [U.pv,.bool l]) []:=by
  rcases w49 A (by rw[AA];omega) (λx hx=>(W x hx).1) with⟨U,_,_,e⟩ | ⟨_,e⟩
  ·exact⟨U,true,e⟩
  ·exact⟨.mk 0 [] 0 0 true [],false,e⟩
 obtain⟨t,z,o,N,lt⟩:=w50 R;by_cases y:z=0
 case neg=>exact⟨_,_,_,z,rpd d f i j am H C A F o y,λe=>absurd e y⟩
 obtain⟨b9,I⟩:=w51 U Y m;cases b9
 ·obtain⟨u,k,n,D⟩:=w48 (T:=T) (w:=w) v K.st K.en am t N am
  exact⟨_,_,_,0,rpc d f i j am H C A F o y G I k,λ_=>⟨a.q.1,a.q.2,a.le,n,am⟩⟩
 ·obtain⟨O,B⟩:=w52 (T:=T) (w:=w) v U K;cases O
  ·obtain⟨u,k,n,D⟩:=w48 (T:=T) (w:=w) v K.st K.en am (([40]++t)++[41]) (EW (EW (UD (by decide)) N) (UD (by decide))) (by simp;omega)
   exact⟨_,_,_,0,rpb d f i j am H C A F o y G I B (by simp;omega) (by simp;omega) k,λ_=>⟨a.q.1,a.q.2,a.le,n,by simp at D;omega⟩⟩
  ·obtain⟨u,k,n,D⟩:=w48 (T:=T) (w:=w) v K.st K.en am t N am
   exact⟨_,_,_,0,rpa d f i j am H C A F o y G I B k,λ_=>⟨a.q.1,a.q.2,a.le,n,am⟩⟩
end Go.Abs.Z

namespace Go.Abs.Z
noncomputable section
open Go.Proofs Go.RowKit
def DL(D:PV)(d:List Dg):Prop:=(D=.nils/\d=[])\/D=slF 5 (d.map Dg.pv)
section
variable{D:PV}{d:List Dg}(h:DL D d)
include h
theorem DL.fr:D.free=true:=by rcases h with⟨rfl,_⟩ | rfl<;>rfl
theorem DL.di:D.Ag=D:=by rcases h with⟨rfl,_⟩ | rfl<;>rfl
theorem DL.mv:AQ .mv [D]=some [some D]:=Lb h.fr h.di
theorem DL.len:AQ (.len false) [D]=some [some (N d.length)]:=by
 rcases h with⟨rfl,rfl⟩ | rfl
 ·rfl
 ·exact JE (z:=5) Dg.pv d
theorem iJ{s:List UInt8}{T:Tr}{z:Int}:(([.str s]:List PV).all PV.free&&([.str s]:List PV).all PV.flat)=true/\([.str s]:List PV).map PV.Ag=[.str s]/\(PV.tuple [T.pv,D,I z]).flat=true/\(PV.tuple [T.pv,D,I z]).Ag=.tuple [T.pv,D,I z]:=by
 refine⟨rfl,rfl,?_,rfl⟩
 obtain⟨k,t,a,e,n,ks⟩:=T;rcases h with⟨rfl,_⟩ | rfl<;>cases n<;>rfl
end
section
variable{s t V U O A H J:List UInt8}{T Y:Tr}{X D:PV}{p:List Int}{i a b z1:Int}{e:CE}{F:FF}{M q:Sto}{d:List Dg}
section
variable(x:KI X p)(G:EvE 12 [.str s,T.pv,X,Y.pv] (.tuple [.agg [I a,I b,.str t],I z1]))
include x G
def sN:List Stp:=[st 13 (QA (AL T)),sp 0 x.mv,st 0 (QA (AL Y)),st 0 (oCA (evA G) (by simp[x.fr,x.fl,x.di]<;>first | rfl | exact⟨rfl,rfl⟩))]
theorem lw0d(m:z1=0)(o:¬a<0)(r:¬a>b)(n:¬b>(s.length:Int))(u:BM (.ssl false true) [.str s,I a] (.str V))(l:EvE 13 [.str V,I 0] (.str U))(e8:EvE 13 [.str s,I b] (.str O))(v:(U:List UInt8).length+(O:List UInt8).length<=CL)(c10:BM (.ssl false true) [.str s,I a] (.str A))(g:(A:List UInt8).length+(t:List UInt8).length<=CL)(k:BM (.ssl true false) [.str s,I b] (.str H))(h:((A++t):List UInt8).length+(H:List UInt8).length<=CL)(j:EvE 13 [.str ((A++t)++H),I 0] (.str J))(f:J=(U++O))(c:LM a4 0 [(0,some (.str s)),(1,some X),(2,some (I i)),(7,some (.vptr Y.pv)),(9,some (.vptr T.pv)),(42,some (I 1))] [] e F M):LM a4 0 [(0,some (.str s)),(1,some X),(2,some (I i)),(7,some (.vptr Y.pv)),(9,some (.vptr T.pv)),(42,some (I 0))] [] e F M:=
 Qs [0,1,2,7,9,42] (sN x G++[sp 6 (Dr .i64 m),sp 3 (Bh .i64 o),sq 5 (Cz .i64 r),sq 6 (Cz .i64 n),sp 5 u,st 0 (oCA (evA l)),st 3 (oCA (evA e8)),sp 0 (Es v),sp 4 c10,sp 2 (Es g),sp 3 k,sp 0 (Es h),st 0 (oCA (evA j)),sp 3 (Nu f)]) c
theorem lw0f(f:z1≠0)(c:LM a4 0 [(0,some (.str s)),(1,some X),(2,some (I i)),(7,some (.vptr Y.pv)),(9,some (.vptr T.pv)),(42,some (I 1))] [] e F M):LM a4 0 [(0,some (.str s)),(1,some X),(2,some (I i)),(7,some (.vptr Y.pv)),(9,some (.vptr T.pv)),(42,some (I 0))] [] e F M:=
 Qs [0,1,2,7,9,42] (sN x G++[sp 6 (C8 .i64 f)]) c
end
section
variable(x:KI X p)(G:EvE 7 [.str s,T.pv,X,I i,Y.pv] (.tuple [.agg [I a,I b,.str t],I z1]))
include x G
def sM:List Stp:=[st 16 (QA (AL T)),sp 0 x.mv,st 1 (QA (AL Y)),st 0 (oCA (evA G) (by simp[x.fr,x.fl,x.di]<;>first | rfl | exact⟨rfl,rfl⟩))]
theorem lw1d(m:z1=0)(o:¬a<0)(r:¬a>b)(n:¬b>(s.length:Int))(u:BM (.ssl false true) [.str s,I a] (.str V))(l:EvE 13 [.str V,I 0] (.str U))(e8:EvE 13 [.str s,I b] (.str O))(v:(U:List UInt8).length+(O:List UInt8).length<=CL)(c10:BM (.ssl false true) [.str s,I a] (.str A))(g:(A:List UInt8).length+(t:List UInt8).length<=CL)(k:BM (.ssl true false) [.str s,I b] (.str H))(h:((A++t):List UInt8).length+(H:List UInt8).length<=CL)(j:EvE 13 [.str ((A++t)++H),I 0] (.str J))(f:J=(U++O))(c:LM a4 0 [(0,some (.str s)),(1,some X),(2,some (I i)),(7,some (.vptr Y.pv)),(9,some (.vptr T.pv)),(42,some (I 2))] [] e F M):LM a4 0 [(0,some (.str s)),(1,some X),(2,some (I i)),(7,some (.vptr Y.pv)),(9,some (.vptr T.pv)),(42,some (I 1))] [] e F M:=
 Qs [0,1,2,7,9,42] (sM x G++[sp 6 (Dr .i64 m),sp 3 (Bh .i64 o),sq 5 (Cz .i64 r),sq 6 (Cz .i64 n),sp 5 u,st 0 (oCA (evA l)),st 3 (oCA (evA e8)),sp 0 (Es v),sp 4 c10,sp 2 (Es g),sp 3 k,sp 0 (Es h),st 0 (oCA (evA j)),sp 3 (Nu f)]) c
theorem lw1f(f:z1≠0)(c:LM a4 0 [(0,some (.str s)),(1,some X),(2,some (I i)),(7,some (.vptr Y.pv)),(9,some (.vptr T.pv)),(42,some (I 2))] [] e F M):LM a4 0 [(0,some (.str s)),(1,some X),(2,some (I i)),(7,some (.vptr Y.pv)),(9,some (.vptr T.pv)),(42,some (I 1))] [] e F M:=
 Qs [0,1,2,7,9,42] (sM x G++[sp 6 (C8 .i64 f)]) c
end
section
variable(x:KI X p)(G:EvE 9 [.str s,T.pv,X,I i] (.tuple [.agg [I a,I b,.str t],I z1]))
include x G
def sK:List Stp:=[st 16 (QA (AL T)),sp 0 x.mv,st 1 (oCA (evA G) (by simp[x.fr,x.fl,x.di]<;>first | rfl | exact⟨rfl,rfl⟩))]
theorem lw2d(m:z1=0)(o:¬a<0)(r:¬a>b)(n:¬b>(s.length:Int))(u:BM (.ssl false true) [.str s,I a] (.str V))(l:EvE 13 [.str V,I 0] (.str U))(e8:EvE 13 [.str s,I b] (.str O))(v:(U:List UInt8).length+(O:List UInt8).length<=CL)(c10:BM (.ssl false true) [.str s,I a] (.str A))(g:(A:List UInt8).length+(t:List UInt8).length<=CL)(k:BM (.ssl true false) [.str s,I b] (.str H))(h:((A++t):List UInt8).length+(H:List UInt8).length<=CL)(j:EvE 13 [.str ((A++t)++H),I 0] (.str J))(f:J=(U++O))(c:LM a4 0 [(0,some (.str s)),(1,some X),(2,some (I i)),(7,some (.vptr Y.pv)),(9,some (.vptr T.pv)),(42,some (I 3))] [] e F M):LM a4 0 [(0,some (.str s)),(1,some X),(2,some (I i)),(7,some (.vptr Y.pv)),(9,some (.vptr T.pv)),(42,some (I 2))] [] e F M:=
 Qs [0,1,2,7,9,42] (sK x G++[sp 6 (Dr .i64 m),sp 3 (Bh .i64 o),sq 5 (Cz .i64 r),sq 6 (Cz .i64 n),sp 5 u,st 0 (oCA (evA l)),st 3 (oCA (evA e8)),sp 0 (Es v),sp 4 c10,sp 2 (Es g),sp 3 k,sp 0 (Es h),st 0 (oCA (evA j)),sp 3 (Nu f)]) c
theorem lw2f(f:z1≠0)(c:LM a4 0 [(0,some (.str s)),(1,some X),(2,some (I i)),(7,some (.vptr Y.pv)),(9,some (.vptr T.pv)),(42,some (I 3))] [] e F M):LM a4 0 [(0,some (.str s)),(1,some X),(2,some (I i)),(7,some (.vptr Y.pv)),(9,some (.vptr T.pv)),(42,some (I 2))] [] e F M:=
 Qs [0,1,2,7,9,42] (sK x G++[sp 6 (C8 .i64 f)]) c
end
def lw3a(c:KI X p):LM a4 0 [(0,some (.str s)),(1,some X),(2,some (I i)),(7,some (.vptr Y.pv)),(9,some (.vptr T.pv)),(42,some (I 3))] [] (.exit 0) [] []:=
 AKC [] []
def lwa(h:KI X p)(c:DL D d)(f:E 11 [.str s] [] (.tuple [T.pv,D,I z1]) q)(g:(s.length:Int) > 400):aZ a4 [.str s,X,I i,Y.pv] [] (.bool true) []:=
 cu [sp 0 (BQ Y),st 2 (oCA (evA f) (iJ c)),sp 1 (CP (l:=[T.pv,D,I z1]) 0 (v:=T.pv) rfl (by simp[c.fr]) T.Ef),sp 0 (CP (l:=[T.pv,D,I z1]) 1 (v:=D) rfl (by simp[c.fr]) c.di),sp 0 (CP (l:=[T.pv,D,I z1]) 2 (v:=(I z1)) rfl (by simp[c.fr]) rfl),sp 1 (BD T),sp 0 c.mv,sp 3 (CF .i64 g),st 16 (MK (a:=[]) (vs:=[]) xQ rfl rfl rfl rfl)]
def lwb(j:KI X p)(c:DL D d)(g:E 11 [.str s] [] (.tuple [T.pv,D,I z1]) q)(h:¬(s.length:Int) > 400)(f:(d.length:Int) > 0):aZ a4 [.str s,X,I i,Y.pv] [] (.bool true) []:=
 cu [sp 0 (BQ Y),st 2 (oCA (evA g) (iJ c)),sp 1 (CP (l:=[T.pv,D,I z1]) 0 (v:=T.pv) rfl (by simp[c.fr]) T.Ef),sp 0 (CP (l:=[T.pv,D,I z1]) 1 (v:=D) rfl (by simp[c.fr]) c.di),sp 0 (CP (l:=[T.pv,D,I z1]) 2 (v:=(I z1)) rfl (by simp[c.fr]) rfl),sp 1 (BD T),sp 0 c.mv,sp 3 (Cz .i64 h),sq 1 c.mv,sq 0 c.len,sq 0 (CF .i64 f),st 12 (MK (a:=[]) (vs:=[]) xQ rfl rfl rfl rfl)]
section
variable(x:KI X p)(K:DL D d)(G:E 11 [.str s] [] (.tuple [T.pv,D,I z1]) q)(W:¬(s.length:Int) > 400)(h3:¬(d.length:Int) > 0)
include x K G W h3
def iQ:List Stp:=[sp 0 (BQ Y),st 2 (oCA (evA G) (iJ K)),sp 1 (CP (l:=[T.pv,D,I z1]) 0 (v:=T.pv) rfl (by simp[K.fr]) T.Ef),sp 0 (CP (l:=[T.pv,D,I z1]) 1 (v:=D) rfl (by simp[K.fr]) K.di),sp 0 (CP (l:=[T.pv,D,I z1]) 2 (v:=(I z1)) rfl (by simp[K.fr]) rfl),sp 1 (BD T),sp 0 K.mv,sp 3 (Cz .i64 W),sq 1 K.mv,sq 0 K.len,sq 0 (Cz .i64 h3),sq 2 x.mv,sq 0 x.len]
theorem lwc(c:(p.length:Int) > 20):aZ a4 [.str s,X,I i,Y.pv] [] (.bool true) []:=
 cu (iQ (Y:=Y) x K G W h3++[sq 0 (CF .i64 c),st 7 (MK (a:=[]) (vs:=[]) xQ rfl rfl rfl rfl)])
theorem lwd(f:¬(p.length:Int) > 20)(c:EvE 5 [Y.pv,I 60] (.bool true))(g:LM a4 0 [(0,some (.str s)),(1,some X),(2,some (I i)),(7,some (.vptr Y.pv)),(9,some (.vptr T.pv)),(42,some (I 0))] [] (.exit 0) [] []):aZ a4 [.str s,X,I i,Y.pv] [] (.bool true) []:=
 cu (iQ (Y:=Y) x K G W h3++[sq 0 (Cz .i64 f),sg 2 (QA (AL Y)),sg 0 (oCA (evA c)),sl 4 [0,1,2,7,9,42] g,st 0 (MK (a:=[]) (vs:=[]) xQ rfl rfl rfl rfl)])
theorem lwe(f:¬(p.length:Int) > 20)(c:EvE 5 [Y.pv,I 60] (.bool false)):aZ a4 [.str s,X,I i,Y.pv] [] (.bool true) []:=
 cu (iQ (Y:=Y) x K G W h3++[sq 0 (Cz .i64 f),sg 2 (QA (AL Y)),sg 0 (oCA (evA c)),st 3 (MK (a:=[]) (vs:=[]) xQ rfl rfl rfl rfl)])
end
end
end
end Go.Abs.Z

namespace Go.Abs.Z
open Go.Proofs Go.RowKit
def AU3(x:Tr):x.nds≠[]:=by cases x;simp[Tr.nds]
def TD{x:Tr}(w:x.wf)(m:x.nds.length<=1000000000)(h:∀k∈x.kids,E 14 [k.pv] [] (slF 5 (Tr.pvs k.nds)) []):∀(l:List Tr) (j:Nat) (a:List Tr),x.kids.drop j=l->(a++CV l).length<=1000000000->
  LL a14 0 [(1,some (.vptr x.pv)),(3,some (.slice true 5 (Tr.pvs a))),(4,some (N j))] [] (.exit 0) [(3,some (.slice true 5 (Tr.pvs (a++CV l))))] []
 |[],j,a,g,c=>by
  show LE _ _ _ _ _ [(3,some (.slice true 5 (Tr.pvs (a++[]))))] _;rw[Az];exact BxC w (by rw[AY] at g;omega)
 |k::l,j,a,g,c=>by
  obtain⟨d,o⟩:=Ma g;have n:=(Ad.1 d).1;have p:=Sb x.kids;have i:=Pt x;have e:a++CV (k::l)=a++k.nds++CV l:=by rw[CV,AC]
  rw[e] at c ⊢;have f:=c;rw[Ae,Ae] at f;exact BxD w n d (h k (Am d)) (AU3 k) (by unfold Bo;omega) am (TD w m h l (j+1) (a++k.nds) o c)
mutual
def e13:∀x:Tr,x.wf->x.nds.length<=1000000000->E 14 [x.pv] [] (slF 5 (Tr.pvs x.nds)) []
 |.mk k t a e n ks,w,hn=>by
  have h:=TD w hn (BVI ks w.2 (by rw[Tr.nds,Ah] at hn;omega)) ks 0 [.mk k t a e n ks] rfl (by
   rw[Tr.nds,Ah] at hn;rw[Ae,DX];omega)
  exact BUC h
def BVI:∀xs:List Tr,Tr.wfs xs->(CV xs).length<=1000000000->∀k∈xs,E 14 [k.pv] [] (slF 5 (Tr.pvs k.nds)) []
 |[],_,_,k,h=>by cases h
 |x::xs,w,hn,k,h=>by
  rw[CV,Ae] at hn;rcases AU.1 h with e | h
  ·rw[e];exact e13 x w.1 am
  ·exact BVI xs w.2 am k h
end
def SI{q:List Tr}(n:q.length<2000000000):∀(l:List Tr) (j:Nat),q.drop j=l->
  ((∀u∈l,u.text.length<=60)->LL a5 0 [(1,some (I 60)),(5,some (slF 5 (Tr.pvs q))),(6,some (N j))] [] (.exit 0) [(1,some (I 60)),(5,some (slF 5 (Tr.pvs q)))] [])/\
  (¬(∀u∈l,u.text.length<=60)->LL a5 0 [(1,some (I 60)),(5,some (slF 5 (Tr.pvs q))),(6,some (N j))] [] .ret [(4,some (.bool false))] [])
 |[],j,f=>⟨λ_=>BU8 (by rw[AY] at f;omega),λh=>absurd (λu b=>by cases b) h⟩
 |u::l,j,f=>by
  obtain⟨c,k⟩:=Ma f;have g:=(Ad.1 c).1;obtain⟨m,o⟩:=SI n l (j+1) k;by_cases b:u.text.length<=60
  ·exact⟨λh=>BxB g c b am (m λv d=>h v (AP _ d)),λh=>BxB g c b am (o λi=>h λv d=>(AU.1 d).elim (λe=>e▸b) (i v))⟩
  ·exact⟨λh=>absurd (h u (AV ..)) b,λ_=>BU9 g c b⟩
def e4{x:Tr}(w:x.wf)(c:x.nds.length<=1000000000):∃b,E 5 [x.pv,I 60] [] (.bool b) []/\(b=true->x.nds.length<=60/\∀u∈x.nds,u.text.length<=60):=by
 obtain⟨d,e⟩:=SI (q:=x.nds) am x.nds 0 rfl
 by_cases h:∀u∈x.nds,u.text.length<=60
 ·exact⟨_,BUB (e13 x w c) (d h),λa=>⟨by have:=of_decide_eq_true a;omega,h⟩⟩
 ·exact⟨false,BUA (e13 x w c) (e h),λa=>by cases a⟩
def zy{s:List UInt8}{ls:List Tk}{m:Nat}(H:CG s ls m){i j:Nat}(h:i<=j)(e:j<=m):tA ls i<=tA ls j:=by
 rcases Be i j with a | d
 ·obtain⟨t,c⟩:=H.at (k:=i) am
  obtain⟨u,b⟩:=H.at (k:=j) e;have:=(H.inc _ _ _ _ c b a).1;rw[JI c,JI b];omega
 ·have:i=j:=am
  subst this;exact Ai _
def xM{w:Nat->Wd}{k:Nat}{D:List AD}(b:Dok k D):∀d∈KY w k D,d.i<=k:=by
 unfold KY;split
 ·exact b.2
 ·intro d a;rcases Bv.1 a with a | a
  ·exact b.2 d a
  ·rw[BR] at a;subst a;exact Ai _
def AzT{s:List UInt8}{ls:List Tk}{m:Nat}(H:CG s ls m){w:Nat->Wd}{k:Nat}{D:List AD}(d:Dok k D)(g:k<=m):Asc (dgs ls (KY w k D)):=by
 have f:(KY w k D).Pairwise λa b=>a.i<=b.i:=by
  have e:D.Pairwise λa b=>a.i<=b.i:=d.1.imp λh=>DJ h
  unfold KY;split
  ·exact e
  ·refine List.pairwise_append.2 ⟨e,CU _ _,λa j b c=>?_⟩
   rw[BR] at c;subst c;exact d.2 a j
 have i:=xM (w:=w) d;show((KY w k D).map (dgA ls)).Pairwise _;rw[List.pairwise_map];exact f.imp_of_mem λ{a b} _ c h=>zy H h (Bf (i _ c) g)
def Qk{s:List UInt8}(b:s.length<=4096):(BL s).length<=s.length+1/\(Gn s).length<=s.length+1:=by
 have a:(Gl s).length<=s.length+1:=IR (s.length+1) s 0;exact⟨Bf (Ew _ _) a,Bf (Ni s _) a⟩
def AzL{w:Nat->Wd}{k:Nat}{D:List AD}(a:Dok k D):(KY w k D).length<=k+2:=by
 have:=a.small;unfold KY;split
 ·omega
 ·simp;omega
def Oj{ls:List Tk}(ks:List AT):ks.isEmpty=true->Fh ls ks=[]:=by
 intro h;have:=DF.1 h;subst this;rfl
mutual
def AJQ{ls:List Tk}:∀x:AT,(trP ls x).wf
 |.mk kd tx f k b ks=>⟨λh=>Oj ks h,XU ks⟩
def XU{ls:List Tk}:∀xs:List AT,Tr.wfs (Fh ls xs)
 |[]=>trivial
 |x::xs=>⟨AJQ x,XU xs⟩
end
def K5{s:List UInt8}{ls:List Tk}{m k:Nat}(H:CG s ls m)(h:k<=m)(b:(wAt s ls k).1=5):k=m:=by
 rcases Be k m with a | a
 ·obtain⟨t,c⟩:=H.at h;have:=H.kd k t c a;rw[JU c] at b
  simp only at b
  omega
 ·omega
def qE{s:List UInt8}{ls:List Tk}{m:Nat}(H:CG s ls m):Wok (wAt s ls) m:=by
 refine⟨H.end',λk b a=>?_⟩
 have:=K5 H b a;subst this;rw[H.end']
def runs(s:List UInt8)(c:s.length<=4096)(x:NT)(a:OI x)(b:x≠.br):∃v k D,runN (wAt s (BL s)) 100000 x 0 []=some (v,k,D):=by
 have H:=J7 s;obtain⟨g,_⟩:=Qk c
 have i:rk x<=100:=by
  cases x with
  |ex L=>rcases a with rfl | rfl | rfl | rfl | rfl | rfl<;>decide
  |lp L f y=>rcases a with rfl | rfl | rfl | rfl<;>simp[rk]
  |_=>simp[rk]
 obtain⟨⟨v,k,D⟩,h⟩:=lQ (qE H) 100000 x 0 a (λe=>absurd e b) (by unfold mu;omega) (Ca _) [] ⟨List.Pairwise.nil,λd h=>by cases h⟩
 exact⟨v,k,D,h⟩
def AqK(s:List UInt8)(f:s.length<=4096){x:NT}{v:Rs}{k:Nat}{D:List AD}(h:runN (wAt s (BL s)) 100000 x 0 []=some (v,k,D)):k<=(BL s).length - 1/\Dok k D/\EI 100000 x 0 v k:=by
 have H:=J7 s;obtain⟨e,c2⟩:=vV (w5 H) 100000 am
 have a:Dok 0 []:=⟨List.Pairwise.nil,λd h=>by cases h⟩
 obtain⟨g,b,c⟩:=e _ _ _ _ h (Ca _) a;exact⟨b,c,c2 _ _ _ _ _ _ h (Ca _) a⟩
def qc(s:List UInt8)(ls:List Tk)(k l:Nat)(es:List PV):List PV:=[.str s,.slice true 4 (ls.map Tk.pv),N k,N l,BI 5 es]
def qd(s:List UInt8)(ls:List Tk)(k l:Nat)(es:List PV):List PV:=[.str s,.slice true 4 (ls.map Tk.pv),N k,N l,Ci 5 es]
def y0(s:List UInt8)(v:PV):List PV:=[.str s,v,I 0,I 0,.nils]
section
variable{s:List UInt8}{ls:List Tk}{k l:Nat}{es:List PV}
def ldQ:Dq (.ld 1 false) [.ref 0 4] [qc s ls k l es]=some [some (Ci 5 es)]:=by cases es<;>rfl
def CqE{j:Nat}:Bt pur run (.w (.st 1)) [.ref 0 2,N j] [qc s ls k l es] [] [qc s ls j l es]:=⟨0,λ_ _=>by cases es<;>rfl⟩
def CqD{j:Nat}:Bt pur run (.w (.st 1)) [.ref 0 3,N j] [qc s ls k l es] [] [qc s ls k j es]:=⟨0,λ_ _=>by cases es<;>rfl⟩
def BZE:Bt pur run (.w .ldo) [.ref 0 4] [qc s ls k l es] [some (BI 5 es)] [qd s ls k l es]:=⟨0,λ_ _=>by cases es<;>rfl⟩
def BjF{es':List PV}:Bt pur run (.w .sto) [.ref 0 4,BI 5 es'] [qd s ls k l es] [some (Ci 5 es')] [qc s ls k l es']:=⟨0,λ_ _=>by cases es<;>cases es'<;>rfl⟩
def ldoY:Bt pur run (.w .ldo) [.ref 0 1] [y0 s (BI 4 es)] [some (BI 4 es)] [y0 s (Ci 4 es)]:=⟨0,λ_ _=>by cases es<;>rfl⟩
def CqC{es':List PV}:Bt pur run (.w .sto) [.ref 0 1,BI 4 es'] [y0 s (Ci 4 es)] [some (Ci 4 es')] [y0 s (BI 4 es')]:=⟨0,λ_ _=>by cases es<;>cases es'<;>rfl⟩
end
def xG{s:Nat}{es:List PV}{x:PV}(j:Nat)(h:es[j]?=some x):AQ (.idx s) [Ci s es,.int .i64 (j:Nat)]=some [some (.vptr x)]:=by
 cases es with
 |nil=>simp at h
 |cons e es=>exact Nb _ _ _ _ _ h
def O0{o:Bool}{X:List Dg}(h:1<=X.length):AQ (.vsl 5 true false) [.slice o 5 (X.map Dg.pv),I 1]=some [some (.slice false 5 (X.tail.map Dg.pv))]:=by
 cases X with
 |nil=>simp at h
 |cons d X=>
  have a:(1:Int)<=((((d::X).map Dg.pv).length:Nat):Int):=by simp;omega
  simp only[AQ,if_true,QP];rw[if_pos ⟨am,a⟩]
  simp only[AJ];congr 5;show(((d::X).map Dg.pv).drop 1).take (((d::X).map Dg.pv).length - 1)=_;rw[Cn (by simp)];rfl
def y5:Rn 153 a153:=rn
def Bq6:E 153 [I 1] [] (.slice false 1 [.str [111,114]]) []:=rule y5 []
def Bq5:E 153 [I 2] [] (.slice false 1 [.str [97,110,100]]) []:=rule y5 []
def Bq4:E 153 [I 4] [] (.slice false 1 [.str [61,61],.str [33,61],.str [60],.str [60,61],.str [62],.str [62,61]]) []:=rule y5 []
def Bq3:E 153 [I 5] [] (.slice false 1 [.str [43],.str [45]]) []:=rule y5 []
def Bq2:E 153 [I 6] [] (.slice false 1 [.str [42],.str [47],.str [37]]) []:=rule y5 []
end Go.Abs.Z
