/- A part of the proof: D10 D9 G6 G9 W5 G10 D3 D25. -/
import Derived.Test.YtapgnmhobbgmiaaGreatDoorKaz
import Derived.Test.YtapgnmhobbgmiaaGreatDoorKay

set_option linter.unusedVariables false
set_option linter.unusedSimpArgs false
namespace Go.Abs.Z
structure WFt(s:List UInt8)(t:Tk):Prop where
 ord:t.a≤t.e∧t.e≤s.length∧t.f≤t.a
 k0:t.k=0→leB ((wd s t).headD 0)=true∧kwL.contains (wd s t)=false
 k1:t.k=1→kwL.contains (wd s t)=true
 k2:t.k=2→diB ((wd s t).headD 0)=true∧(wd s t).all diB=true
 k3:t.k=3→leB ((wd s t).headD 0)=false∧diB ((wd s t).headD 0)=false∧wd s t≠[]
 k5:t.k=5→wd s t=[]
theorem ni{s r:List UInt8}{k f a n:Nat}(h:s.drop a=r):wd s ⟨k,f,a,a+n⟩=r.take n:=by
 simp only[wd];rw[h,show a+n - a=n by omega]
theorem kH(p:UInt8→Bool)(l:List UInt8):(l.take (Dc p l)).all p=true:=by
 induction l with
 |nil=>rfl
 |cons c l ih=>
  unfold Dc at *;rw[BV];cases h:p c with
  |true=>simp only[if_true,Al,List.take_succ_cons,Dr,h,Cy];exact ih
  |false=>rfl
theorem Rw(l:List UInt8):H6 l≤l.length:=by
 cases l with
 |nil=>simp[H6]
 |cons a l=>
  rw[H6];split
  ·rename_i h;cases l with
   |nil=>simp at h
   |cons=>simp
  ·split<;>simp
theorem KA(p:UInt8→Bool)(l:List UInt8):Dc p l≤l.length:=by
 unfold Dc;exact(List.takeWhile_sublist p).length_le
theorem dX:∀l:List UInt8,wrN l≤l.length
 |[]=>Ag _
 |c::l=>by have:=dX l;rw[wrN];split<;>simp;omega
theorem Mq:∀(b:Bool) (l:List UInt8),skN b l≤l.length
 |b,[]=>by cases b<;>simp[skN]
 |true,c::l=>by
  have h1:=Mq false l;have h2:=Mq true l;simp only[skN,Al];split<;>omega
 |false,c::l=>by
  have h1:=Mq false l;have h2:=Mq true l;simp only[skN,Al];split
  ·omega
  ·split<;>omega
theorem nG{s r:List UInt8}{f a:Nat}(hr:s.drop a=r)(hne:r≠[])(hf:f≤a):WFt s ⟨(IP r).1,f,a,a+(IP r).2⟩∧0<(IP r).2∧a+(IP r).2≤s.length∧(IP r).1<5:=by
 have hlen:r.length=s.length - a:=by rw[←hr,AU]
 cases r with
 |nil=>exact absurd rfl hne
 |cons c l=>
  have hpos:0<s.length - a:=by rw[←hlen];simp
  have hd:∀n,0<n→((c::l).take n).headD 0=c:=fun n hn=>by
   cases n with
   |zero=>omega
   |succ n=>rfl
  have hne':∀n,0<n→(c::l).take n≠[]:=fun n hn=>by
   cases n with
   |zero=>omega
   |succ n=>simp
  unfold IP;simp only[List.headD_cons,List.tail_cons];by_cases hl:leB c=true
  ·simp only[hl,if_true];have hwo:woB c=true:=by simp[woB,hl]
   have h0:0<Dc woB (c::l):=by simp[Dc,hwo]
   have hle:=KA woB (c::l);refine⟨?_,h0,by omega,by split<;>omega⟩
   have hw:wd s ⟨if kwL.contains ((c::l).take (Dc woB (c::l)))=true then 1 else 0,f,a,a+Dc woB (c::l)⟩=(c::l).take (Dc woB (c::l)):=ni hr
   cases hk:kwL.contains ((c::l).take (Dc woB (c::l))) with
   |true=>
    rw[hk] at hw;exact⟨⟨by simp,by simp only;omega,hf⟩,fun h=>by simp at h,fun _=>by rw[hw];exact hk,fun h=>by simp at h,fun h=>by simp at h,fun h=>by simp at h⟩
   |false=>
    rw[hk] at hw;exact⟨⟨by simp,by simp only;omega,hf⟩,fun _=>by rw[hw,hd _ h0];exact⟨hl,hk⟩,fun h=>by simp at h,fun h=>by simp at h,fun h=>by simp at h,fun h=>by simp at h⟩
  ·by_cases hdg:diB c=true
   ·simp only[hl,hdg,if_true,Bool.false_eq_true,if_false];have h0:0<Dc diB (c::l):=by simp[Dc,hdg]
    have hle:=KA diB (c::l);have hw:wd s ⟨2,f,a,a+Dc diB (c::l)⟩=(c::l).take (Dc diB (c::l)):=ni hr;exact⟨⟨⟨by simp,by simp only;omega,hf⟩,fun h=>by simp at h,fun h=>by simp at h,fun _=>by rw[hw,hd _ h0];exact⟨hdg,kH _ _⟩,fun h=>by simp at h,fun h=>by simp at h⟩,h0,by omega,by omega⟩
   ·have hl':leB c=false:=by simpa using hl
    have hd':diB c=false:=by simpa using hdg
    by_cases hs:0<H6 (c::l)
    ·simp only[hl',hd',hs,if_true,Bool.false_eq_true,if_false];have hle:=Rw (c::l);have hw:wd s ⟨3,f,a,a+H6 (c::l)⟩=(c::l).take (H6 (c::l)):=ni hr;exact⟨⟨⟨by simp,by simp only;omega,hf⟩,fun h=>by simp at h,fun h=>by simp at h,fun h=>by simp at h,fun _=>by rw[hw,hd _ hs];exact⟨hl',hd',hne' _ hs⟩,fun h=>by simp at h⟩,trivial,by omega,by omega⟩
    ·simp only[hl',hd',hs,Bool.false_eq_true,if_false];have hle:=dX l;simp only[Al] at hlen;exact⟨⟨⟨by simp,by simp only;omega,hf⟩,fun h=>by simp at h,fun h=>by simp at h,fun h=>by simp at h,fun h=>by simp at h,fun h=>by simp at h⟩,by omega,by omega,by omega⟩
structure ut(s:List UInt8)(f:Nat)(l:List Tk):Prop where
 init:∃l0 g,l=l0++[⟨5,g,s.length,s.length⟩]∧∀t∈l0,t.k<5
 wf:∀t∈l,WFt s t∧f≤t.a
 ord:l.Pairwise fun t u=>t.a<u.a∧t.e≤u.a
theorem JZ(s:List UInt8):∀(n f:Nat),f≤s.length→s.length - f<n→ut s f (J2 n (s.drop f) f)
 |0,f,_,h=>by omega
 |n+1,f,hf,h=>by
  have hk:=Mq false (s.drop f);rw[AU] at hk;rw[J2];by_cases he:(s.drop f).drop (skN false (s.drop f))=[]
  ·simp only[he,if_true];rw[Co,AZ] at he;have e:f+skN false (s.drop f)=s.length:=by omega
   rw[e];refine⟨⟨[],f,rfl,fun t h=>by cases h⟩,fun t ht=>?_,by simp⟩
   rw[CK] at ht;subst ht;exact⟨⟨⟨by simp,by simp,hf⟩,fun h=>by simp at h,fun h=>by simp at h,fun h=>by simp at h,fun h=>by simp at h,fun _=>by simp[wd]⟩,hf⟩
  ·simp only[he,if_false];rw[Co] at he;simp only[Co];obtain⟨w1,w2,w3,w4⟩:=nG (s:=s) (f:=f) (a:=f+skN false (s.drop f)) rfl he (by omega)
   have hlt:f+skN false (s.drop f) < s.length:=by omega
   obtain⟨⟨l0,g,e,hi⟩,hw,ho⟩:=JZ s n (f+skN false (s.drop f)+(IP (s.drop (f+skN false (s.drop f)))).2) (by omega) (by omega)
   refine⟨⟨_::l0,g,by rw[e];rfl,fun t ht=>?_⟩,fun t ht=>?_,?_⟩
   ·rcases AY.1 ht with rfl | ht
    ·exact w4
    ·exact hi t ht
   ·rcases AY.1 ht with rfl | ht
    ·exact⟨w1,by simp⟩
    ·exact⟨(hw t ht).1,by have:=(hw t ht).2;omega⟩
   ·rw[BR];exact⟨fun u hu=>by have:=(hw u hu).2;simp only;omega,ho⟩
def good(l:List Tk):List Tk:=l.filter fun t=>t.k != 4
theorem ut.good{s:List UInt8}{f:Nat}{l:List Tk}(h:ut s f l):ut s f (good l):=by
 obtain⟨⟨l0,g,e,hi⟩,hw,ho⟩:=h;refine⟨⟨Z.good l0,g,by rw[e];simp[Z.good],fun t ht=>hi t (Ck.1 ht).1⟩,fun t ht=>hw t (Ck.1 ht).1,ho.filter _⟩
theorem nZ:(spW.all fun x=>(!leB (x.headD 0)||kwL.contains x)&&!diB (x.headD 0))=true:=by decide
theorem tT:(Y9.all fun x=>leB (x.headD 0)&&spW.contains x)=true:=by decide
theorem uQ{s:List UInt8}{l:List Tk}(h:ut s 0 l)(hs:s.length<1000000)(hl:l.length≤1000000)(hk:∀t∈l,t.k≠4):CG s l (l.length - 1):=by
 obtain⟨⟨l0,g,e,hi⟩,hw,ho⟩:=h;have hlen:l.length=l0.length+1:=by rw[e];simp
 have hlast:l[l.length - 1]?=some ⟨5,g,s.length,s.length⟩:=by rw[hlen,e];simp
 have mem:∀{k:Nat} {t:Tk},l[k]?=some t→t∈l:=fun h=>Au h
 have nsp:∀(t:Tk),t∈l→spW.contains (wd s t)=true→t.k=1∨t.k=3:=by
  intro t ht hsp;have hf:=Av.1 nZ _ (CO.1 hsp);simp only[Ai,CW,ES] at hf;have w:=(hw t ht).1
  have h5:t.k≤5:=by
   rw[e] at ht;rcases Cm.1 ht with h' | h'
   ·have:=hi t h';omega
   ·rw[CK] at h';subst h';simp
  have h4:=hk t ht
  have c0:t.k≠0:=fun h0=>by
   obtain⟨a,b⟩:=w.k0 h0;rcases hf.1 with x | x
   ·rw[a] at x;cases x
   ·rw[b] at x;cases x
  have c2:t.k≠2:=fun h0=>by
   obtain⟨a,b⟩:=w.k2 h0;rw[a] at hf;exact absurd hf.2 (by simp)
  have c5:t.k≠5:=fun h0=>by
   rw[w.k5 h0] at hsp;exact absurd hsp (by decide)
  omega
 refine⟨by omega,by omega,hs,⟨_,hlast,rfl,rfl⟩,fun k t ht=>⟨(hw t (mem ht)).1.ord.1,(hw t (mem ht)).1.ord.2.1⟩,fun i j t u ht hu hij=>?_,fun k t ht hkm=>?_,fun k t ht hsp=>nsp t (mem ht) hsp,fun k t ht hp=>?_,fun k t ht hb=>?_⟩
 ·have h1:=Ad.1 ht;have h2:=Ad.1 hu;have:=List.pairwise_iff_getElem.1 ho i j h1.1 h2.1 hij;rw[h1.2,h2.2] at this;exact this
 ·have hm:=mem ht
  have:t∈l0:=by
   have hk0:k<l0.length:=by omega
   rw[e,Ak hk0] at ht;exact Au ht
  have h1:=hi t this;have h2:=hk t hm;omega
 ·rcases nsp t (mem ht) (by rw[hp];decide) with h1 | h3
  ·have:=(hw t (mem ht)).1.k1 h1;rw[hp] at this;exact absurd this (by decide)
  ·exact h3
 ·have hf:=Av.1 tT _ (CO.1 hb);simp only[Ai] at hf;rcases nsp t (mem ht) hf.2 with h1 | h3
  ·exact h1
  ·have:=((hw t (mem ht)).1.k3 h3).1;rw[hf.1] at this;cases this
theorem IA:∀(n:Nat) (l:List UInt8) (f:Nat),(J2 n l f).length≤n
 |0,_,_=>Ag _
 |n+1,l,f=>by
  simp only[J2];split
  ·simp
  ·have:=IA n (((l.drop (skN false l))).drop (IP (l.drop (skN false l))).2) (f+skN false l+(IP (l.drop (skN false l))).2);simp only[Al];omega
def Ch(s:List UInt8):List Tk:=good (EQ s)
theorem JI(s:List UInt8)(hs:s.length<999999:=by omega):CG s (Ch s) ((Ch s).length - 1):=by
 have h:=(JZ s (s.length+1) 0 (by omega) (by omega)).good
 have hl:(EQ s).length≤s.length+1:=IA (s.length+1) s 0;refine uQ h (by omega) ?_ (fun t ht=>?_)
 ·exact Bf (Dv _ _) (by omega)
 ·have:=(Ck.1 ht).2;simpa using this
end Go.Abs.Z

namespace Go.Abs.Z
open Go.Proofs Go.RowKit
theorem u8i(c d:UInt8):(((c.toNat:Nat):Int)=((d.toNat:Nat):Int))↔c=d:=by
 refine⟨fun h=>UInt8.toNat_inj.1 (by omega),fun h=>by rw[h]⟩
theorem e143(c:UInt8):E 161 [.int .u8 ((c.toNat:Nat):Int)] [] (.bool (whB c)) []:=by
 unfold whB;by_cases h1:c=9
 ·subst h1;exact Ak9 rfl
 by_cases h2:c=10
 ·subst h2;exact Ak8 (by decide) rfl
 by_cases h3:c=13
 ·subst h3;exact Ak7 (by decide) (by decide) rfl
 have e:(((c.toNat:Nat):Int)==32)=(c==32):=by
  by_cases h4:c=32
  ·subst h4;rfl
  ·rw[beq_eq_false_iff_ne.2 h4,beq_eq_false_iff_ne];exact fun h=>h4 ((u8i c 32).1 h)
 have:=Ak6 (c:=c) (fun h=>h1 ((u8i c 9).1 h)) (fun h=>h2 ((u8i c 10).1 h)) (fun h=>h3 ((u8i c 13).1 h))
 rw[e] at this;rw[beq_eq_false_iff_ne.2 h1,beq_eq_false_iff_ne.2 h2,beq_eq_false_iff_ne.2 h3];simpa using this
theorem AQ6(c:UInt8):E 164 [.int .u8 ((c.toNat:Nat):Int)] [] (.bool (leB c)) []:=by
 unfold leB;by_cases h:97≤c.toNat
 ·have:=Ak5 (c:=c) (by omega)
  rw[decide_eq_true h,Cy];have e:decide (((c.toNat:Nat):Int)≤122)=decide (c.toNat≤122):=by by_cases h2:c.toNat≤122<;>simp[h2]<;>omega
  rwa [e] at this
 ·rw[decide_eq_false h,DJ];exact Ak4 (by omega)
theorem sZ(c:UInt8):E 166 [.int .u8 ((c.toNat:Nat):Int)] [] (.bool (diB c)) []:=by
 unfold diB;by_cases h:48≤c.toNat
 ·have:=AkG (c:=c) (by omega)
  rw[decide_eq_true h,Cy];have e:decide (((c.toNat:Nat):Int)≤57)=decide (c.toNat≤57):=by by_cases h2:c.toNat≤57<;>simp[h2]<;>omega
  rwa [e] at this
 ·rw[decide_eq_false h,DJ];exact AkF (by omega)
theorem BvA(c:UInt8):E 163 [.int .u8 ((c.toNat:Nat):Int)] [] (.bool (c != 10)) []:=by
 have:=BjI (c:=c)
 have e:(((c.toNat:Nat):Int) != 10)=(c != 10):=by
  by_cases h:c=10
  ·subst h;rfl
  ·rw[bne_iff_ne.2 h,bne_iff_ne];exact fun x=>h ((u8i c 10).1 x)
 rwa [e] at this
theorem Bv9(c:UInt8):E 165 [.int .u8 ((c.toNat:Nat):Int)] [] (.bool (woB c)) []:=by
 unfold woB;have h1:=AQ6 c;have h2:=sZ c;cases hl:leB c with
 |true=>rw[hl] at h1;exact Ak3 h1
 |false=>
  rw[hl] at h1;cases hd:diB c with
  |true=>rw[hd] at h2;exact Ak2 h1 h2
  |false=>
   rw[hd] at h2;have:=Ak1 h1 h2
   have e:(((c.toNat:Nat):Int)==95)=(c==95):=by
    by_cases h:c=95
    ·subst h;rfl
    ·rw[beq_eq_false_iff_ne.2 h,beq_eq_false_iff_ne];exact fun x=>h ((u8i c 95).1 x)
   rw[e] at this;simpa using this
theorem OC{s:List UInt8}{i:Nat}(h:i<s.length):∃c l,s.drop i=c::l∧s[i]?=some c∧s.drop (i+1)=l:=by
 refine⟨s[i],s.drop (i+1),Cq h,Ah h,rfl⟩
theorem yC{g:FuncId}(p:UInt8→Bool)(pg:pur g=true)(hg:∀c:UInt8,E g [.int .u8 ((c.toNat:Nat):Int)] [] (.bool (p c)) [])(s:List UInt8)(hs:s.length<1000000)(i:Nat)(hi:i≤s.length):
  E 162 [.str s,N i,.func g [] []] [] (N (i+Dc p (s.drop i))) []:=by
 refine BjN ?_
 have key:∀(n i:Nat),i≤s.length→s.length - i=n→LL a162 0 [(0,some (.str s)),(1,some (N i)),(2,some (.func g [] []))] [] (.exit 0) [(1,some (N (i+Dc p (s.drop i))))] []:=by
  intro n
  induction n with
  |zero=>
   intro i hi hn;have:s.drop i=[]:=by rw[AZ];omega
   rw[this];exact Yk (by omega)
  |succ n ih=>
   intro i hi hn;obtain⟨c,l,h1,h2,h3⟩:=OC (s:=s) (i:=i) (by omega)
   have hc:=hg c;rw[h1];cases hp:p c with
   |true=>
    rw[hp] at hc;have:=ih (i+1) (by omega) (by omega)
    rw[h3] at this;have e:Dc p (c::l)=1+Dc p l:=by simp[Dc,BV,hp];omega
    rw[e,show i+(1+Dc p l)=i+1+Dc p l by omega]
    exact Vm (by omega) h2 pg hc (by omega) this
   |false=>
    rw[hp] at hc;have e:Dc p (c::l)=0:=by simp[Dc,BV,hp]
    rw[e];exact Yj (by omega) h2 pg hc
 exact key _ i hi rfl
theorem eQ:∀l:List UInt8,skN true l=Dc (· != 10) l+skN false (l.drop (Dc (· != 10) l))
 |[]=>rfl
 |c::l=>by
  by_cases h:c=10
  ·subst h;have:Dc (· != 10) ((10:UInt8)::l)=0:=by simp[Dc]
   rw[this];simp[skN,whB]
  ·have:Dc (· != 10) (c::l)=1+Dc (· != 10) l:=by simp[Dc,BV,h];omega
   rw[this,skN,if_neg h,eQ l,show 1+Dc (· != 10) l=Dc (· != 10) l+1 by omega,Ed];omega
theorem BvC(s:List UInt8)(hs:s.length<1000000)(i:Nat)(hi:i≤s.length):E 117 [.str s,N i] [] (N (i+skN false (s.drop i))) []:=by
 have key:∀(n i:Nat),i≤s.length→s.length - i≤n→
   LL a117 0 [(0,some (.str s)),(1,some (N i))] [] (.exit 0) [(1,some (N (i+skN false (s.drop i))))] [] ∨
   LL a117 0 [(0,some (.str s)),(1,some (N i))] [] .ret [(4,some (N (i+skN false (s.drop i))))] []:=by
  intro n
  induction n with
  |zero=>
   intro i hi hn;have:s.drop i=[]:=by rw[AZ];omega
   rw[this];exact .inl (O8 (by omega))
  |succ n ih=>
   intro i hi hn;rcases Bc i s.length with hlt | hge
   ·obtain⟨c,l,h1,h2,h3⟩:=OC hlt;have hc:=e143 c;rw[h1];cases hw:whB c with
    |true=>
     rw[hw] at hc;have e:i+skN false (c::l)=i+1+skN false (s.drop (i+1)):=by rw[h3,skN,if_pos hw];omega
     rw[e];rcases ih (i+1) (by omega) (by omega) with h | h
     ·exact .inl (NR (by omega) h2 hc (by omega) h)
     ·exact .inr (NR (by omega) h2 hc (by omega) h)
    |false=>
     rw[hw] at hc;by_cases h35:c=35
     ·subst h35;have h134:=yC (· != 10) rfl BvA s hs i hi;have hr:Dc (· != 10) (s.drop i)=1+Dc (· != 10) l:=by rw[h1];simp[Dc,BV];omega
      have hle:=KA (· != 10) l;have hll:l.length=s.length - (i+1):=by rw[←h3,AU]
      have e:i+skN false ((35:UInt8)::l)=i+Dc (· != 10) (s.drop i)+skN false (s.drop (i+Dc (· != 10) (s.drop i))):=by
       rw[hr,skN,if_neg (by rw[hw];simp),if_pos rfl,eQ,←h3,Co,h3]
       rw[show i+1+Dc (fun x=>x != 10) l=i+(1+Dc (fun x=>x != 10) l) by omega];omega
      rw[e];rcases ih (i+Dc (· != 10) (s.drop i)) (by omega) (by omega) with h | h
      ·exact .inl (NQ (by omega) h2 hc rfl h134 h)
      ·exact .inr (NQ (by omega) h2 hc rfl h134 h)
     ·have e:skN false (c::l)=0:=by rw[skN,if_neg (by rw[hw];simp),if_neg h35]
      rw[e];exact .inr (Yr (by omega) h2 hc (fun h=>h35 ((u8i c 35).1 h)))
   ·have:s.drop i=[]:=by rw[AZ];omega
    rw[this];exact .inl (O8 (by omega))
 rcases key _ i hi (Ag _) with h | h
 ·exact AkN h
 ·exact AkM h
theorem AZN(s:List UInt8)(i:Nat){c:UInt8}(hc:s[i]?=some c):∀(n j:Nat),j+n=18→(∀k d,k<j→GU[k]?=some d→d≠c)→
  (GU.contains c=false∧LL a168 0 [(0,some (.str s)),(1,some (N i)),(44,some (.slice false 1 (GU.map by8))),(45,some (I 18)),(46,some (N j))] [] (.exit 0) [(0,some (.str s)),(1,some (N i)),(44,some (.slice false 1 (GU.map by8)))] []) ∨
  (GU.contains c=true∧LL a168 0 [(0,some (.str s)),(1,some (N i)),(44,some (.slice false 1 (GU.map by8))),(45,some (I 18)),(46,some (N j))] [] .ret [(4,some (I 1))] []):=by
 have hlen:GU.length=18:=rfl;intro n
 induction n with
 |zero=>
  intro j hj h;refine .inl ⟨?_,Yd (by omega)⟩
  rw[←Ff,CO,BL]
  rintro⟨k,hk⟩
  have:=(Ad.1 hk).1;exact h k c (by omega) hk rfl
 |succ n ih=>
  intro j hj h;have hlt:j<GU.length:=by omega
  have hg:=Ah hlt;by_cases hx:c=GU[j]
  ·refine .inr ⟨?_,Yc (by omega) hg hc ((u8i _ _).2 hx)⟩
   rw[CO,hx];exact Ci hlt
  ·rcases ih (j+1) (by omega) (fun k d hk hd=>by
    rcases Bc k j with h' | h'
    ·exact h k d h' hd
    ·have:k=j:=by omega
     subst this;rw[hg] at hd;cases hd;exact fun e=>hx e.symm) with⟨h1,h2⟩ | ⟨h1,h2⟩
   ·exact .inl ⟨h1,NN (by omega) hg hc (fun e=>hx ((u8i _ _).1 e)) (by omega) h2⟩
   ·exact .inr ⟨h1,NN (by omega) hg hc (fun e=>hx ((u8i _ _).1 e)) (by omega) h2⟩
theorem Bx3(s:List UInt8)(hs:s.length<1000000)(i:Nat)(hi:i<s.length):E 168 [.str s,N i] [] (N (H6 (s.drop i))) []:=by
 obtain⟨c,l,h1,h2,h3⟩:=OC hi;have hsy:=AZN s i h2 18 0 rfl (fun k d hk=>by omega)
 rw[h1]
 have fin:∀{r:Nat},(r=if GU.contains c then 1 else 0)→(∀(L:LL a168 0 [(0,some (.str s)),(1,some (N i)),(44,some (.slice false 1 (GU.map by8))),(45,some (I 18)),(46,some (I 0))] [] (.exit 0) [(0,some (.str s)),(1,some (N i)),(44,some (.slice false 1 (GU.map by8)))] []),E 168 [.str s,N i] [] (I 0) [])→
   (∀(L:LL a168 0 [(0,some (.str s)),(1,some (N i)),(44,some (.slice false 1 (GU.map by8))),(45,some (I 18)),(46,some (I 0))] [] .ret [(4,some (I 1))] []),E 168 [.str s,N i] [] (I 1) [])→E 168 [.str s,N i] [] (N r) []:=by
  intro r hr f1 f2;rcases hsy with⟨a1,a2⟩ | ⟨a1,a2⟩
  ·rw[hr,a1];exact f1 a2
  ·rw[hr,a1];exact f2 a2
 rcases Bc (i+1) s.length with hlt | hge
 ·obtain⟨d,l',g1,g2,g3⟩:=OC hlt;rw[h3] at g1;have hh:l.head?=some d:=by rw[g1];rfl
  by_cases hd:d=61
  ·subst hd;have two:c=61∨c=33∨c=60∨c=62→H6 (c::l)=2:=fun h=>by rw[H6,if_pos ⟨hh,h⟩]
   by_cases c1:c=61
   ·rw[two (.inl c1)];subst c1;exact AjY (by omega) (by omega) g2 rfl h2 rfl
   by_cases c2:c=33
   ·rw[two (.inr (.inl c2))];subst c2;exact AjV (by omega) (by omega) g2 rfl h2 (by decide) rfl
   by_cases c3:c=60
   ·rw[two (.inr (.inr (.inl c3)))];subst c3;exact AjU (by omega) (by omega) g2 rfl h2 (by decide) (by decide) rfl
   by_cases c4:c=62
   ·rw[two (.inr (.inr (.inr c4)))];subst c4;exact AjT (by omega) (by omega) g2 rfl h2 (by decide) (by decide) (by decide) rfl
   have n1:((c.toNat:Nat):Int)≠61:=fun h=>c1 ((u8i c 61).1 h)
   have n2:((c.toNat:Nat):Int)≠33:=fun h=>c2 ((u8i c 33).1 h)
   have n3:((c.toNat:Nat):Int)≠60:=fun h=>c3 ((u8i c 60).1 h)
   have n4:((c.toNat:Nat):Int)≠62:=fun h=>c4 ((u8i c 62).1 h)
   exact fin (by rw[H6,if_neg (by simp[c1,c2,c3,c4])]) (fun L=>AjS (by omega) (by omega) g2 rfl h2 n1 n2 n3 n4 L) (fun L=>xm (by omega) (by omega) g2 rfl h2 n1 n2 n3 n4 L)
  ·have nd:((d.toNat:Nat):Int)≠61:=fun h=>hd ((u8i d 61).1 h)
   exact fin (by rw[H6,if_neg (by rw[hh];intro h;exact hd (Option.some.inj h.1))]) (fun L=>AjX (by omega) (by omega) g2 nd L) (fun L=>AjW (by omega) (by omega) g2 nd L)
 ·have hl:l=[]:=by rw[←h3,AZ];omega
  subst hl;exact fin (by rw[H6,if_neg (by simp)]) (fun L=>Ak0 (by omega) (by omega) L) (fun L=>AjZ (by omega) (by omega) L)
theorem Bv8(w:List UInt8):E 167 [.str w] [] (.bool (kwL.contains w)) []:=by
 refine BjH ?_
 have hf:∀ks:List (List UInt8),findKey (.s w) (ks.map Ky.s) (ks.map fun _=>PV.bool true)=if ks.contains w then some (.bool true) else none:=by
  intro ks
  induction ks with
  |nil=>rfl
  |cons a ks ih=>
   simp only[Bv,findKey,Ky.s.injEq];by_cases h:a=w
   ·subst h;simp
   ·rw[if_neg h,ih];have:(w==a)=false:=by rw[beq_eq_false_iff_ne];exact fun e=>h e.symm
    rw[BH,this,Cg]
 show(Tn (.bool false) false false jG (.str w)).map (fun v=>[some v])=_
 have hall:(kwL.map Ky.s).all (sameKind (.s w))=true:=rfl;unfold jG Tn;simp only[Pt,hall,Ky.isInt,and_self,if_true,hf];cases kwL.contains w<;>rfl
theorem AZC(s:List UInt8)(hs:s.length<1000000):∀(n i:Nat),i≤s.length→s.length - i=n→LL UG 0 [(0,some (.str s)),(8,some (N i))] [] (.exit 1) [(0,some (.str s)),(8,some (N (i+wrN (s.drop i))))] []:=by
 intro n
 induction n with
 |zero=>
  intro i hi hn;have:s.drop i=[]:=by rw[AZ];omega
  rw[this];exact Yq (by omega)
 |succ n ih=>
  intro i hi hn;obtain⟨c,l,h1,h2,h3⟩:=OC (s:=s) (i:=i) (by omega)
  have a1:=e143 c;have a2:=AQ6 c;have a3:=sZ c;have a4:=Bx3 s hs i (by omega)
  rw[h1] at a4 ⊢;have stop:Kv c l=true→wrN (c::l)=0:=fun h=>by rw[wrN,if_pos h]
  cases hw:whB c with
  |true=>rw[hw] at a1;rw[stop (by simp[Kv,hw])];exact Yp (by omega) h2 a1
  |false=>
   rw[hw] at a1;by_cases h35:c=35
   ·rw[stop (by simp[Kv,h35])];subst h35;exact Yo (by omega) h2 a1 rfl
   have n35:((c.toNat:Nat):Int)≠35:=fun h=>h35 ((u8i c 35).1 h)
   cases hl:leB c with
   |true=>rw[hl] at a2;rw[stop (by simp[Kv,hl])];exact Yn (by omega) h2 a1 n35 a2
   |false=>
    rw[hl] at a2;cases hd:diB c with
    |true=>rw[hd] at a3;rw[stop (by simp[Kv,hd])];exact Ym (by omega) h2 a1 n35 a2 a3
    |false=>
     rw[hd] at a3;by_cases hy:H6 (c::l)=0
     ·have e:wrN (c::l)=1+wrN l:=by rw[wrN,if_neg];simp[Kv,hw,h35,hl,hd,hy]
      have:=ih (i+1) (by omega) (by omega)
      rw[h3] at this;rw[e,show i+(1+wrN l)=i+1+wrN l by omega]
      exact Vn (by omega) h2 a1 n35 a2 a3 a4 (by omega) (by omega) this
     ·rw[stop (by simp[Kv,hy])]
      exact Yl (by omega) h2 a1 n35 a2 a3 a4 (by omega)
theorem iF{l:List UInt8}(h:l≠[]):0<(IP l).2∧(IP l).2≤l.length:=by
 cases l with
 |nil=>exact absurd rfl h
 |cons c l=>
  unfold IP;simp only[List.headD_cons,List.tail_cons];by_cases hl:leB c=true
  ·simp only[hl,if_true];refine⟨?_,KA _ _⟩
   have:woB c=true:=by simp[woB,hl]
   simp[Dc,this]
  ·by_cases hd:diB c=true
   ·simp only[hl,hd,if_true,Bool.false_eq_true,if_false];refine⟨?_,KA _ _⟩
    simp[Dc,hd]
   ·by_cases hs:0<H6 (c::l)
    ·simp only[hl,hd,hs,if_true,Bool.false_eq_true,if_false];exact⟨trivial,Rw _⟩
    ·have:=dX l;simp only[hl,hd,hs,Bool.false_eq_true,if_false,Al];omega
theorem BvB(s:List UInt8)(hs:s.length<1000000)(i:Nat)(hi:i<s.length):E 118 [.str s,N i] [] (.tuple [N (IP (s.drop i)).1,N (i+(IP (s.drop i)).2)]) []:=by
 obtain⟨c,l,h1,h2,h3⟩:=OC hi;have a2:=AQ6 c;have a3:=sZ c;unfold IP;have hh:(s.drop i).headD 0=c:=by rw[h1];rfl
 have ht:(s.drop i).tail=l:=by rw[h1];rfl
 rw[hh,ht];cases hl:leB c with
 |true=>
  rw[hl] at a2;have a4:=yC woB rfl Bv9 s hs i (by omega)
  have hle:=KA woB (s.drop i);rw[AU] at hle;have a5:=NU s i (i+Dc woB (s.drop i));rw[show i+Dc woB (s.drop i) - i=Dc woB (s.drop i) by omega] at a5
  have a6:=Bv8 ((s.drop i).take (Dc woB (s.drop i)));simp only[if_true];cases hk:kwL.contains ((s.drop i).take (Dc woB (s.drop i))) with
  |true=>rw[hk] at a6;exact AkL h2 a2 a4 a5 a6
  |false=>rw[hk] at a6;exact AkK h2 a2 a4 a5 a6
 |false=>
  rw[hl] at a2;simp only[Bool.false_eq_true,if_false];cases hd:diB c with
  |true=>
   rw[hd] at a3;simp only[if_true];exact AkJ h2 a2 a3 (yC diB rfl sZ s hs i (by omega))
  |false=>
   rw[hd] at a3;simp only[Bool.false_eq_true,if_false];have a4:=Bx3 s hs i hi;have:=Rw (s.drop i);rw[AU] at this;by_cases hy:0<H6 (s.drop i)
   ·rw[if_pos hy];exact AkI h2 a2 a3 a4 (by omega) (by omega) (by omega)
   ·rw[if_neg hy];have a5:=AZC s hs _ (i+1) (by omega) rfl
    rw[h3] at a5;have:=AkH h2 a2 a3 a4 (by omega) (by omega) a5
    rwa [show i+1+wrN l=i+(1+wrN l) by omega] at this
theorem AZU(s:List UInt8)(hs:s.length<1000000):∀(n f:Nat) (tl:List Tk),f≤s.length→s.length - f<n→tl.length+n≤2000000→
  LL a59 0 [(0,some (.str s)),(4,some (Bw 4 (tl.map Tk.pv))),(5,some (N f))] [] .ret [(2,some (Bw 4 ((tl++J2 n (s.drop f) f).map Tk.pv))),(3,some (I 0))] []
 |0,f,tl,_,h,_=>by omega
 |n+1,f,tl,hf,h,hn=>by
  have a1:=BvC s hs f hf;have hk:=Mq false (s.drop f);rw[AU] at hk;have hm:(tl.map Tk.pv).length+1≤Bn:=by rw[Aq];unfold Bn;omega
  rw[J2];by_cases he:(s.drop f).drop (skN false (s.drop f))=[]
  ·simp only[he,if_true,Ca];rw[Co,AZ] at he;exact Z4 (m2:=f+skN false (s.drop f)) a1 (by omega) hm
  ·simp only[he,if_false];rw[Co] at he
   have hlt:f+skN false (s.drop f) < s.length:=by
    rcases Bc (f+skN false (s.drop f)) s.length with h' | h'
    ·exact h'
    ·exact absurd (AZ.2 (by omega)) he
   have a2:=BvB s hs (f+skN false (s.drop f)) hlt;have ht:=iF he;rw[AU] at ht;have:=AZU s hs n (f+skN false (s.drop f)+(IP (s.drop (f+skN false (s.drop f)))).2) (tl++[⟨(IP (s.drop (f+skN false (s.drop f)))).1,f,f+skN false (s.drop f),f+skN false (s.drop f)+(IP (s.drop (f+skN false (s.drop f)))).2⟩]) (by omega) (by omega) (by simp;omega)
   rw[AP,Ca (l₁:=tl) (l₂:=[_])] at this;simp only[Co];exact Xe a1 (by omega) a2 hm this
theorem oN(n:Nat)(l:List UInt8)(f:Nat):J2 (n+1) l f≠[]:=by
 simp only[J2];split<;>simp
theorem e97(s:List UInt8)(hs:s.length≤4096):E 59 [.str s] [] (.tuple [.slice false 4 ((EQ s).map Tk.pv),I 0]) []:=by
 have h0:=AZU s (by omega) (s.length+1) 0 [] (by omega) (by omega) (by simp;omega)
 have h1:=AJ2 (by omega) h0
 have e:BG 4 (([]++J2 (s.length+1) (s.drop 0) 0).map Tk.pv)=.slice false 4 ((EQ s).map Tk.pv):=by
  show BG 4 ((EQ s).map Tk.pv)=_;cases hc:EQ s with
  |nil=>exact absurd hc (oN _ _ _)
  |cons t ts=>rfl
 rwa [e] at h1
end Go.Abs.Z

namespace Go.Abs.Z
open Go.Proofs Go.RowKit
def aS(H T:Sto)(g:Nat)(Ds:List Dg):Sto:=H++[.arrv g 5 (Ds.map Dg.pv)]::T
section
variable{H T:Sto}{g n j:Nat}{Ds:List Dg}{d:Dg}
theorem iq:(aS H T g Ds)[H.length]?=some [.arrv g 5 (Ds.map Dg.pv)]:=by
 unfold aS;rw[Ao (Ag _),Fb];rfl
theorem uq{x:List PV}:(aS H T g Ds).set H.length x=H++x::T:=by
 unfold aS;rw[List.set_append_right _ _ (Ag _),Fb];rfl
theorem Ib{id:Nat}(h:j<n):Be (.idx 5) [.arr id g 0 n 5,N j]=some [some (.aptr id g 5 j 0)]:=by
 show(if 5=5∧(0:Int)≤(j:Int)∧(j:Int) < n then some (PV.aptr id g 5 (0+(j:Int).toNat) 0) else none).map (fun v=>[some v])=_
 rw[if_pos ⟨rfl,by omega,by omega⟩,Int.toNat_natCast,Bq];rfl
theorem ldA(h:Ds[j]?=some d):Fq (.ld 5 true) [.aptr H.length g 5 j 0] (aS H T g Ds)=some [some d.pv]:=by
 simp only[Fq,iq,JH,and_self,if_true,Am,h,AO];rfl
theorem stA(h:j<Ds.length):Bh pur run (.w (.st 5)) [.aptr H.length g 5 j 0,d.pv] (aS H T g Ds) [] (aS H T g (Ds.set j d)):=by
 refine⟨0,fun n _=>?_⟩
 have he:(Ds.map Dg.pv)[j]?=some (Ds[j].pv):=by rw[Am,Ah h];rfl
 show EW pur (run n) (.st 5) [.aptr H.length g 5 j 0,d.pv] (aS H T g Ds)=_;simp only[EW,iq,JH,and_self,if_true,he];rw[if_pos ⟨rfl,rfl,rfl⟩];have:upd Ds[j].pv 0 d.pv.Ae=some d.pv:=rfl;rw[this,AO,uq];unfold aS;rw[List.map_set]
end
theorem Dl(a b:Nat)(h:b≤a)(hj:a<2000000000):Be (.bin .sub 0) [.int .i64 (a:Nat),.int .i64 (b:Nat)]=some [some (.int .i64 ((a - b:Nat):Int))]:=iI a b h hj
theorem MX(a:Nat)(h:a<2000000000):Be (.cvt .u64) [.int .i64 (a:Nat)]=some [some (.int .u64 (a:Nat))]:=by
 apply Y0;simp[IntKind.wrap,IntKind.bits,IntKind.signed];omega
theorem MZ(a:Nat)(h:a<2000000000):Be (.cvt .i64) [.int .u64 (a:Nat)]=some [some (.int .i64 (a:Nat))]:=by
 apply Y0;simp[IntKind.wrap,IntKind.bits,IntKind.signed];omega
theorem qR(a b:Nat)(h:a * b<2000000000):Be (.bin .mul 0) [.int .i64 (a:Nat),.int .i64 (b:Nat)]=some [some (.int .i64 ((a * b:Nat):Int))]:=by
 apply fU;rw[←Int.natCast_mul];simp[IntKind.wrap,IntKind.bits,IntKind.signed];omega
theorem Mr(a:Nat)(h:a<2000000000):Be (.bin .shr 0) [.int .u64 (a:Nat),.int .u64 1]=some [some (.int .u64 ((a / 2:Nat):Int))]:=by
 have e:(a:Int).fdiv (2 ^ min 1 IntKind.u64.bits)=((a / 2:Nat):Int):=by
  show(a:Int).fdiv 2=_;rw[Int.fdiv_eq_ediv_of_nonneg _ (by decide)];rfl
 have:Go.binOp .shr 0 (.int .u64 (a:Int)) (.int .u64 1)=.pure (.int .u64 ((a / 2:Nat):Int)):=by
  show Sem.pure (Value.int .u64 ((a:Int).fdiv (2 ^ min 1 IntKind.u64.bits)))=_;rw[e]
 show(match Go.binOp .shr 0 (.int .u64 (a:Int)) (.int .u64 1) with
    |.pure (.int k' n)=>some (PV.int k' n)
    |_=>none).map (fun v=>[some v])=_
 rw[this];rfl
end Go.Abs.Z

namespace Go.Abs.Z
open Go.Proofs Go.RowKit
theorem gu(T:Tr)(d:Nat):Be (.ldf d 1 false) [.lref d 4,T.pv]=some [some T.kp]:=by
 show(if d=d then _ else _)=_
 rw[if_pos rfl,Tr.H7];obtain⟨k,t,a,e,n,ks⟩:=T;cases n<;>rfl
def srV(s:List UInt8)(T:Tr)(ts:List Tk)(w:Bool):PV:=.agg [.str s,.int .i64 T.kind,.str T.text,.int .i64 T.st,.int .i64 T.en,T.kp,.slice false 4 (ts.map Tk.pv),.bool w]
section
variable(s:List UInt8)(T:Tr)(ts:List Tk)(w:Bool)
theorem Jb:(srV s T ts w).Ae=srV s T ts w:=by unfold srV;simp
theorem Rx:(srV s T ts w).free=true:=rfl
theorem WL:(srV s T ts w).flat=true:=rfl
theorem nX:(srV s T ts w).JG=true:=rfl
theorem WJ:(srV s T ts w).ones=true:=by obtain⟨k,t,a,e,n,ks⟩:=T;cases n<;>rfl
theorem Sk:(srV s T ts w).cells.length=8:=rfl
theorem nW:(srV s T ts w).okc=true:=rfl
theorem AZS:KE (srV s T ts w) (some 8)=true:=by obtain⟨k,t,a,e,n,ks⟩:=T;cases n<;>rfl
theorem Ol:∀ts:List Tk,PV.CP (ts.map Tk.pv)=true
 |[]=>rfl
 |t::ts=>by rw[Bv,PV.CP,Ol ts];rfl
theorem Tx:T.kp.CE=true:=by
 obtain⟨k,t,a,e,n,ks⟩:=T;cases n
 ·show PV.CP (Tr.pvs ks)=true;exact Tr.Ng ks
 ·rfl
theorem Sj:(srV s T ts w).CE=true:=by
 unfold srV;simp[PV.CE,PV.CP,Tx,Ol]
end
attribute [simp] Jb Rx WL nX WJ Sk nW AZS
theorem Sa(s:List UInt8)(T:Tr)(ts:List Tk)(w:Bool):Be (.sti 8) [.hole 8,srV s T ts w]=some [some (.vptr (srV s T ts w))]:=by
 show(if _ then _ else _)=_
 rw[if_pos ⟨rfl,Sk ..,WL ..,WJ ..⟩,Jb]
theorem jC{σ:Sto}(s:List UInt8)(T:Tr)(ts:List Tk)(w:Bool):Fq (.ld 8 true) [.vptr (srV s T ts w)] σ=some [some (srV s T ts w)]:=rE rfl (Rx ..) (Jb ..)
theorem AxP(s:List UInt8)(T:Tr)(ts:List Tk)(w:Bool):Be .bx [srV s T ts w]=some [some (.vptr (srV s T ts w))]:=AxQ (WL ..) (Jb ..)
theorem tO(s:List UInt8)(T:Tr)(ts:List Tk)(w:Bool):Be (.build [.str [],.int .i64 0,.str [],.int .i64 0,.int .i64 0,.nils,.nils,.bool false] [(0,1),(1,5),(6,1),(7,1)]) [.str s,T.pv,.slice false 4 (ts.map Tk.pv),.bool w]=some [some (srV s T ts w)]:=tQ (by obtain⟨k,t,a,e,n,ks⟩:=T;cases n<;>rfl)
theorem AzF(s:List UInt8)(T:Tr)(ts:List Tk)(w:Bool)(a b c d e f g h:PV):Be (.stl 0 8) [.agg [a,b,c,d,e,f,g,h],srV s T ts w]=some [some (srV s T ts w)]:=
 eO (Sk ..) (nW ..) (WJ ..) (by rw[Jb];rfl)
theorem sS(s:List UInt8)(T:Tr)(ts:List Tk)(w b:Bool):Be (.ext 0) [.tuple [srV s T ts w,.bool b]]=some [some (srV s T ts w)]:=JB 0 rfl ⟨rfl,Jb ..⟩
theorem Gp{l:List PV}(i:Nat){v:PV}(h:l[i]?=some v)(hf:l.all PV.free=true)(hd:v.Ae=v):Be (.ext i) [.tuple l]=some [some v]:=JB i h ⟨hf,hd⟩
theorem AwA{f:FuncId}{vs zs:List PV}{σ σ1 σ2:Sto}{r r':PV}(h:E f zs σ r σ1)(hv:vs.map PV.Ae=zs)(hf:vs.all PV.free=true)(hz:lJ r σ1=some (r',σ2)):Bh pur run (.w (.callz f)) vs σ [some r'] σ2:=by
 obtain⟨N,H⟩:=h;refine⟨N,fun n hn=>?_⟩
 show(if vs.all PV.free then _ else _)=_
 rw[if_pos hf,hv,H n hn,Dx];show(lJ r σ1).map _=_;rw[hz];rfl
theorem Ps{α:Type}(z:Nat)(f:α→PV)(l:List α):Be (.len false) [BG z (l.map f)]=some [some (N l.length)]:=by rw[MO,Aq]
theorem cz{α:Type}{z:Nat}{f:α→PV}{l:List α}{x:α}(j:Nat)(h:l[j]?=some x):Be (.idx z) [BG z (l.map f),N j]=some [some (.vptr (f x))]:=by
 cases l with
 |nil=>cases h
 |cons y l=>exact SX _ _ _ _ _ (by show(List.map f (y::l))[j]?=_;rw[Am,h];rfl)
def stP(V:PV)(w:List UInt8)(K:PV):Sto:=[[.bld 101 5 w],[K],[.func 70 [] [.ref 1 0,.ref 0 0,.vptr V]]]
theorem e83{w p:List UInt8}{V K:PV}(h:w.length+p.length≤4294967296):E 71 [.ref 0 0,.str p] (stP V w K) (.tuple [N p.length,.nili]) (stP V (w++p) K):=by
 refine Ns 0 fun n _=>?_
 show YB (run n) [.ref 0 0,.str p] (stP V w K)=_;show(if 101=101∧5=5∧w.length+p.length≤4294967296 then _ else _)=_
 rw[if_pos ⟨rfl,rfl,h⟩];rfl
theorem uH(k:Tr)(ks:List Tr):Be (.vsl 5 true false) [.slice false 5 (Tr.pvs (k::ks)),I 1]=some [some (.slice false 5 (Tr.pvs ks))]:=by
 show(if 5=5 then(PN true false (Tr.pvs (k::ks)).length [I 1]).map (fun(l,h)=>[some (PV.slice false 5 (((Tr.pvs (k::ks)).drop l).take (h - l)))]) else none)=_
 rw[if_pos rfl];show(if(0:Int)≤1∧(1:Int)≤((Tr.pvs (k::ks)).length:Nat) then some ((1:Int).toNat,(Tr.pvs (k::ks)).length) else none).map _=_
 rw[if_pos ⟨by decide,by simp only[Tr.pvs,Al];omega⟩]
 show some [some (PV.slice false 5 (((Tr.pvs (k::ks)).drop 1).take ((Tr.pvs (k::ks)).length - 1)))]=_;simp[Tr.pvs]
end Go.Abs.Z

namespace Go.Abs.Z
open PV
open Go.Proofs Go.RowKit
set_option linter.unusedVariables false
set_option linter.unusedSimpArgs false
theorem uw:Rn 60 a60:=fun _ _ _=>rfl
theorem uy:Rn 119 a119:=fun _ _ _=>rfl
theorem BwR:Rn 24 a24:=fun _ _ _=>rfl
theorem y25(s:List UInt8)(T x:Tr)(ts:List Tk)(w:Bool):E 24 [srV s T ts w,x.pv] [] (.func 63 [] [.vptr (srV s T ts w),.vptr x.pv]) []:=
 rule BwR [sp 0 (AxP s T ts w),sp 0 (DD x)]
theorem BwS:Rn 23 a23:=fun _ _ _=>rfl
theorem y24{cs:List PV}{r r':PV}{σ σ':Sto}(h:E 62 [.nils,.func 63 [] cs] [] r σ)(hz:lJ r σ=some (r',σ'))(hf:Be .mv [r']=some [some r'])(ho:r'.free=true∧r'.Ae=r'):E 23 [.func 63 [] cs] [] r' σ':=
 Bt BwS [st 2 (AwA (vs:=[.nils,.func 63 [] cs]) h rfl rfl hz),sp 0 hf] (by simp[Gs,DL,ho]:(Gm [(2,r')] [(2,none)]).bind DL=some r')
theorem RY8:Rn 6 a6:=fun _ _ _=>rfl
theorem y8_{s:List UInt8}{T U:Tr}{ts:List Tk}{w:Bool}{n:Nat}{P1:List PV}{r:PV}{σ1 σ2 σ3:Sto}(h21:E 20 [.str s,T.pv] [] (.tuple [srV s T ts w,.bool true]) [])(h22:E 21 [T.pv,N n] [] (.tuple [BG 1 P1,.bool true]) σ1)(h23:E 22 [T.pv,BG 1 P1] [] (.tuple [U.pv,.bool true]) σ2)(h24:E 23 [.func 63 [] [.vptr (srV s T ts w),.vptr U.pv]] [] r σ3)(hr:r.free=true∧r.flat=true∧r.JG=true∧r.Ae=r):E 6 [.str s,T.pv,N n] [] (.tuple [r,I 0]) []:=
 Bt RY8 [sp 0 (DD T),st 3 (Q (Bu T)),st 0 (Fy (σ:=[]) (vs:=[.str s,T.pv]) (r':=.tuple [srV s T ts w,.bool true]) h21 (by simp) (by simp) (by simp) rfl),sp 1 (sS s T ts w true),sp 2 (Sa s T ts w),st 4 (Q (Bu T)),st 1 (Fy (σ:=[]) (vs:=[T.pv,N n]) (r':=.tuple [BG 1 P1,.bool true]) h22 (by simp) (by simp) (by simp) rfl),sp 1 (Gp (l:=[BG 1 P1,.bool true]) 0 (v:=BG 1 P1) rfl (by simp) (by simp)),sp 0 (Gp (l:=[BG 1 P1,.bool true]) 1 (v:=.bool true) rfl (by simp) rfl),sp 0 (GI 1 P1),st 4 (Q (Bu T)),sp 0 (GI 1 P1),st 0 (Fy (σ:=[]) (vs:=[T.pv,BG 1 P1]) (r':=.tuple [U.pv,.bool true]) h23 (by simp) (by simp) (by simp) rfl),sp 1 (Gp (l:=[U.pv,.bool true]) 0 (v:=U.pv) rfl (by simp) (by simp)),sp 0 (Gp (l:=[U.pv,.bool true]) 1 (v:=.bool true) rfl (by simp) rfl),sp 1 (BF U),st 1 (Q (jC s T ts w)),st 0 (Q (Bu U)),st 0 (Fy (σ:=[]) (vs:=[srV s T ts w,U.pv]) (r':=.func 63 [] [.vptr (srV s T ts w),.vptr U.pv]) (y25 s T U ts w) (by simp) (by simp) rfl rfl),st 0 (Fy (σ:=[]) (vs:=[.func 63 [] [.vptr (srV s T ts w),.vptr U.pv]]) h24 rfl rfl hr.2.1 hr.2.2.2),sp 0 (Pm hr.1 hr.2.2.2)] (by simp[Gs,DL,PV.Gi,hr]:(Gm [(6,r),(7,I 0)] [(6,none),(7,none)]).bind DL=some (.tuple [r,I 0]))
theorem RY9:Rn 8 a8:=fun _ _ _=>rfl
theorem y9_{s p:List UInt8}{T:Tr}{ts:List Tk}{w:Bool}{σ1:Sto}(h21:E 20 [.str s,T.pv] [] (.tuple [srV s T ts w,.bool true]) [])(h26:E 27 [srV s T ts w,T.pv] [] (.str p) σ1):E 8 [.str s,T.pv] [] (.tuple [.str p,I 0]) []:=
 rule RY9 [sp 0 (DD T),st 3 (Q (Bu T)),st 0 (Fy (σ:=[]) (vs:=[.str s,T.pv]) (r':=.tuple [srV s T ts w,.bool true]) h21 (by simp) (by simp) (by simp) rfl),sp 1 (sS s T ts w true),sp 2 (Sa s T ts w),st 4 (Q (jC s T ts w)),st 0 (Q (Bu T)),st 0 (Fy (σ:=[]) (vs:=[srV s T ts w,T.pv]) h26 (by simp) (by simp) rfl rfl)]
theorem BwU:Rn 21 a21:=fun _ _ _=>rfl
theorem y22{T:Tr}{n c:Nat}{m:Nat}{U:PV}{p:List PV}(hn:n<c)(h7:E 61 [T.pv] [] (N c) [])(h:LL a21 0 [(1,N n),(2,T.pv),(6,Bw 1 [])] [] (.exit 0) [(1,N m),(2,some U),(6,Bw 1 p)] []):E 21 [T.pv,N n] [] (.tuple [BG 1 p,.bool true]) []:=
 Bt BwU [sp 0 (Y7 T),sp 3 (BN .i64 (show ¬(n:Int) < 0 by omega)),sq 2 (Ep T),sg 0 (oC h7),sq 0 (LQ .i64 (show ¬(n:Int)≥(c:Int) by omega)),sl 3 [1,2,6] h,sp 0 (qQ 1 p),sp 0 (GI 1 p)] (by simp[Gs,DL,PV.Gi]:(Gm [(4,BG 1 p),(5,bool true)] [(4,none),(5,none)]).bind DL=some (.tuple [BG 1 p,.bool true]))
theorem BzH{T:Tr}{p:List PV}:LL a21 0 [(1,N 0),(2,T.pv),(6,Bw 1 p)] [] (.exit 0) [(1,N 0),(2,T.pv),(6,Bw 1 p)] []:=
 BA [1,2,6] [sp 1 (DI .i64 (show ¬(0:Int) > 0 by omega))]
theorem BzI{T U:Tr}{n m:Nat}{p q:List PV}(w:T.wf)(hn:n<2000000000)(hp:0<n)(h:LL a21 1 [(1,N (n - 1)),(2,T.pv),(6,Bw 1 p),(23,T.kp),(24,N T.kids.length),(25,N 0)] [] (.exit 2) [(1,N m),(2,U.pv),(6,Bw 1 q)] []){e:Cu}{ff1:FF}{σ1:Sto}(hl:LL a21 0 [(1,N m),(2,U.pv),(6,Bw 1 q)] [] e ff1 σ1):LL a21 0 [(1,N n),(2,T.pv),(6,Bw 1 p)] [] e ff1 σ1:=
 BM [1,2,6] [sp 1 (CX .i64 (show(n:Int) > 0 by omega)),sp 2 (Dl n 1 hp hn),sp 2 (gu T 2),sp 0 (EY w),sl 1 [1,2,6,23,24,25] h] hl
theorem BzJ{T K:Tr}{n i c:Nat}{p:List PV}(w:T.wf)(hi:i<T.kids.length)(li:i<2000000000)(hK:T.kids[i]?=some K)(h7:E 61 [K.pv] [] (N c) [])(hc:c≤n)(hn:n<2000000000){e:Cu}{ff1:FF}{σ1:Sto}(hl:LL a21 1 [(1,N (n - c)),(2,T.pv),(6,Bw 1 p),(23,T.kp),(24,N T.kids.length),(25,N (i+1))] [] e ff1 σ1):LL a21 1 [(1,N n),(2,T.pv),(6,Bw 1 p),(23,T.kp),(24,N T.kids.length),(25,N i)] [] e ff1 σ1:=
 BM [1,2,6,23,24,25] [sp 0 (AQ .i64 (show(i:Int) < (T.kids.length:Int) by omega)),sp 2 (IV i w hK),st 0 (Q (Bu K)),sp 2 (BF K),st 0 (Q (Bu K)),st 0 (oC h7),sp 3 (BN .i64 (show ¬(n:Int) < (c:Int) by omega)),sp 3 (Dl n c hc hn),sp 1 (AB i 1 li)] hl
theorem BzK{T K:Tr}{n i c:Nat}{p:List PV}(w:T.wf)(hi:i<T.kids.length)(hK:T.kids[i]?=some K)(h7:E 61 [K.pv] [] (N c) [])(hc:n<c)(hm:p.length+1≤Bn):LL a21 1 [(1,N n),(2,T.pv),(6,Bw 1 p),(23,T.kp),(24,N T.kids.length),(25,N i)] [] (.exit 2) [(1,N n),(2,K.pv),(6,Bw 1 (p++[N i]))] []:=
 BA [1,2,6] [sp 0 (AQ .i64 (show(i:Int) < (T.kids.length:Int) by omega)),sp 2 (IV i w hK),st 0 (Q (Bu K)),sp 2 (BF K),st 0 (Q (Bu K)),st 0 (oC h7),sp 3 (AQ .i64 (show(n:Int) < (c:Int) by omega)),sp 1 (KG 1 p),sp 2 (Gr (size:=1) (o:=true) (xs:=[N i]) hm ⟨rfl,rfl⟩),st 0 (Q (Bu K)),sp 0 (KG 1 (p++[N i])),sp 0 (He T K)]
theorem BwT:Rn 22 a22:=fun _ _ _=>rfl
theorem y23{T U:Tr}{p:List Nat}(h:LL a22 0 [(2,T.pv),(4,agg [I 0,.str [],I 0,I 0,.nils]),(8,BG 1 (p.map N)),(9,N p.length),(10,N 0)] [] (.exit 0) [(2,U.pv),(4,agg [I 0,.str [],I 0,I 0,.nils])] []):E 22 [T.pv,BG 1 (p.map N)] [] (.tuple [U.pv,.bool true]) []:=
 Bt BwT [sp 0 (Y7 T),sp 2 (GI 1 (p.map N)),sp 0 (Ps 1 N p),sl 1 [2,4,8,9,10] h,sp 0 (Ep U),sp 0 (WI (I 0) (.str []) (I 0) (I 0) .nils U)] (by simp[Gs,DL,PV.Gi]:(Gm [(4,U.pv),(5,bool true)] [(4,some 5),(5,none)]).bind DL=some (.tuple [U.pv,.bool true]))
theorem BzG{T K:Tr}{p:List Nat}{i j:Nat}(w:T.wf)(hj:j<p.length)(hi:p[j]?=some i)(hk:i<T.kids.length)(hK:T.kids[i]?=some K)(l:j<2000000000){e:Cu}{ff1:FF}{σ1:Sto}(hl:LL a22 0 [(2,K.pv),(4,agg [I 0,.str [],I 0,I 0,.nils]),(8,BG 1 (p.map N)),(9,N p.length),(10,N (j+1))] [] e ff1 σ1):LL a22 0 [(2,T.pv),(4,agg [I 0,.str [],I 0,I 0,.nils]),(8,BG 1 (p.map N)),(9,N p.length),(10,N j)] [] e ff1 σ1:=
 BM [2,4,8,9,10] [sp 0 (AQ .i64 (show(j:Int) < (p.length:Int) by omega)),sp 1 (cz (z:=1) (f:=N) j hi),sp 3 (BN .i64 (show ¬(i:Int) < 0 by omega)),sq 3 (gu T 2),sq 0 (EY w),sq 0 (LQ .i64 (show ¬(i:Int)≥(T.kids.length:Int) by omega)),sp 3 (gu T 2),sp 1 (IV i w hK),st 0 (Q (Bu K)),sp 0 (He T K),sp 0 (AB j 1 l)] hl
theorem BzF{T:Tr}{p:List Nat}{j:Nat}(hj:¬j<p.length):LL a22 0 [(2,T.pv),(4,agg [I 0,.str [],I 0,I 0,.nils]),(8,BG 1 (p.map N)),(9,N p.length),(10,N j)] [] (.exit 0) [(2,T.pv),(4,agg [I 0,.str [],I 0,I 0,.nils])] []:=
 BA [2,4] [sp 0 (BN .i64 (show ¬(j:Int) < (p.length:Int) by omega))]
theorem BwQ:Rn 70 a70:=fun _ _ _=>rfl
theorem y82{s w:List UInt8}{T:Tr}{ts:List Tk}{b:Bool}{at_:Nat}{w':List UInt8}{K K':PV}(h:LL a70 0 [(0,N at_),(1,ref 1 0),(2,ref 0 0),(3,vptr (srV s T ts b))] (stP (srV s T ts b) w K) (.exit 0) [] (stP (srV s T ts b) w' K')):E 70 [N at_,.ref 1 0,.ref 0 0,.vptr (srV s T ts b)] (stP (srV s T ts b) w K) (.tuple []) (stP (srV s T ts b) w' K'):=
 rule BwQ [sl 0 [0,1,2,3] h]
theorem BzE{s w:List UInt8}{T:Tr}{ts:List Tk}{b:Bool}{at_:Nat}:LL a70 0 [(0,N at_),(1,ref 1 0),(2,ref 0 0),(3,vptr (srV s T ts b))] (stP (srV s T ts b) w .nils) (.exit 0) [] (stP (srV s T ts b) w .nils):=
 BA [] []
theorem BzD{s w:List UInt8}{T:Tr}{ts:List Tk}{b:Bool}{at_:Nat}:LL a70 0 [(0,N at_),(1,ref 1 0),(2,ref 0 0),(3,vptr (srV s T ts b))] (stP (srV s T ts b) w (.slice false 5 (Tr.pvs []))) (.exit 0) [] (stP (srV s T ts b) w (.slice false 5 (Tr.pvs []))):=
 BA [] []
theorem BzC{s w:List UInt8}{T:Tr}{ts:List Tk}{b:Bool}{at_:Nat}{k:Tr}{ks:List Tr}(hk:¬k.st<(at_:Nat)):LL a70 0 [(0,N at_),(1,ref 1 0),(2,ref 0 0),(3,vptr (srV s T ts b))] (stP (srV s T ts b) w (.slice false 5 (Tr.pvs (k::ks)))) (.exit 0) [] (stP (srV s T ts b) w (.slice false 5 (Tr.pvs (k::ks)))):=
 BA [] [sp 1 (FZ false 5 (k::ks)),sp 0 (CX .i64 (show(((k::ks).length:Nat):Int) > 0 by rw[Al];omega)),sq 2 (Gn (o:=false) (s:=5) (ts:=k::ks) (U:=k) 0 rfl),sq 0 (EB k),sq 2 (BN .i64 hk)]
theorem BzB{s w:List UInt8}{T:Tr}{ts:List Tk}{b:Bool}{at_:Nat}{p:List UInt8}{k:Tr}{ks:List Tr}{σ2:Sto}(hk:k.st<(at_:Nat))(h26:E 27 [srV s T ts b,k.pv] [] (.str p) σ2)(hp:w.length+p.length≤4294967296){e:Cu}{ff1:FF}{σ1:Sto}(hl:LL a70 0 [(0,N at_),(1,ref 1 0),(2,ref 0 0),(3,vptr (srV s T ts b))] (stP (srV s T ts b) (w++p) (.slice false 5 (Tr.pvs ks))) e ff1 σ1):LL a70 0 [(0,N at_),(1,ref 1 0),(2,ref 0 0),(3,vptr (srV s T ts b))] (stP (srV s T ts b) w (.slice false 5 (Tr.pvs (k::ks)))) e ff1 σ1:=
 BM [0,1,2,3] [sp 1 (FZ false 5 (k::ks)),sp 0 (CX .i64 (show(((k::ks).length:Nat):Int) > 0 by rw[Al];omega)),sq 2 (Gn (o:=false) (s:=5) (ts:=k::ks) (U:=k) 0 rfl),sq 0 (EB k),sq 2 (AQ .i64 hk),st 2 (QS (stP (srV s T ts b) w (.slice false 5 (Tr.pvs (k::ks)))) (jC s T ts b)),sp 1 (Gn (o:=false) (s:=5) (ts:=k::ks) (U:=k) 0 rfl),st 0 (QS (stP (srV s T ts b) w (.slice false 5 (Tr.pvs (k::ks)))) (Bu k)),st 0 (Fy (vs:=[srV s T ts b,k.pv]) (σ:=(stP (srV s T ts b) w (.slice false 5 (Tr.pvs (k::ks))))) h26 (by simp) (by simp) rfl rfl),st 0 (Ct (vs:=[.ref 0 0,.str p]) (e83 (V:=srV s T ts b) (K:=(.slice false 5 (Tr.pvs (k::ks)))) hp) rfl rfl rfl rfl),sp 1 (uH k ks)] hl
end Go.Abs.Z

namespace Go.Abs.Z
open Go.Proofs Go.RowKit
set_option linter.unusedVariables false
theorem ZP{f:LFn}{X A A1 A2 B1 C1 B2 B:Frm}{σ σ1 σ2:Sto}{x:List PV}(h1:FEx f.aca (OL f.ds x A) σ .normal A1 σ1)(k1:C9 f.La A1=B1)(q1:quiet (Ec X B1) σ1=true∧A1.length=f.La.length)
  (e1:IZ X B1=C1) (h2:FEx f.ac C1 σ1 .normal A2 σ2) (k2:C9 f.L A2=B2) (q2:quiet (Ec X B2) σ2=true∧A2.length=f.L.length) (e2:IZ X B2=B) :
  ∃N,∀n,N≤n→∀m,KS pur (run n) m f.aca f.ac f.La f.L X f.ds x A σ=some (B,σ2):=by
 obtain⟨N1,H1⟩:=h1;obtain⟨N2,H2⟩:=h2;refine⟨max N1 N2,fun n hn m=>?_⟩
 unfold KS;rw[H1 n (by omega) m]
 dsimp only;rw[k1,if_pos q1,e1,H2 n (by omega) m]
 dsimp only;rw[k2,if_pos q2,e2]
theorem zh{f:LFn}{g:FuncId}(hrun:∀n args σ,run (n+1) g args σ=Mx pur itr 1000 f (run n) args σ){args:List PV}{A0 A1 A2 A3 X:Frm}{σ0 σ1 σ2 σ3 σ4:Sto}{gf:FuncId}{caps:List PV}{xs:List (List PV)}{e:Cu}{r:PV}
  (ha:args.length=f.nargs∧args.length≤f.ntmps) (hp:∃N,∀n,N≤n→Qn pur (run n) 1000 f.pre (args.map some++List.replicate (f.ntmps+f.extra - args.length) none) σ0=some (.normal,A0,σ1))
  (hr:FEx f.rg A0 σ1 .normal A1 σ2) (hg:A1.get f.g=some (.func gf [] caps)) (hi:itr gf caps=some xs) (hX:IU f.Lv A1=X)
  (hc:quiet (Ec X (C9 f.L A1)) σ2=true∧A1.length=f.L.length∧f.Lv.length=f.L.length∧f.Lr.length=f.L.length∧caps.all PV.flat=true∧xs.all (fun x=>x.length==f.nps)=true)
  (h1:∃N,∀n,N≤n→∀m,Ia pur (run n) m f.aca f.ac f.La f.L X f.ds xs (IZ X (C9 f.L A1)) σ2=some (A2,σ3)) (h2:FEx f.post A2 σ3 e A3 σ4)
  (h3:(e=.normal∨e=.ret)∧quiet (Ec X (C9 f.Lr A3)) σ4=true∧A3.length=f.Lr.length) (h4:YY f (Ec X (C9 f.Lr A3)) σ4=some (r,σ4)):E g args σ0 r σ4:=by
 obtain⟨N1,H1⟩:=hp;obtain⟨N2,H2⟩:=hr;obtain⟨N3,H3⟩:=h1;obtain⟨N4,H4⟩:=h2;refine Ns (max N1 (max N2 (max N3 N4))) fun n hn=>?_
 rw[hrun,Mx,if_pos ha,H1 n (by omega)]
 dsimp only;rw[H2 n (by omega) 1000]
 dsimp only;exact bM hg hi hX hc (H3 n (by omega) 1000) (H4 n (by omega) 1000) h3 h4
theorem pre_nil{A:Frm}{σ:Sto}:∃N,∀n,N≤n→Qn pur (run n) 1000 [] A σ=some (.normal,A,σ):=⟨0,fun _ _=>rfl⟩
theorem MG{c:Db}{cs:List Db}{A A1 A2:Frm}{σ σ1 σ2:Sto}(h:FEx c A σ .normal A1 σ1)(h2:∃N,∀n,N≤n→Qn pur (run n) 1000 cs A1 σ1=some (.normal,A2,σ2)):∃N,∀n,N≤n→Qn pur (run n) 1000 (c::cs) A σ=some (.normal,A2,σ2):=by
 obtain⟨N1,H1⟩:=h;obtain⟨N2,H2⟩:=h2;refine⟨max N1 N2,fun n hn=>?_⟩
 rw[Qn,H1 n (by omega) 1000]
 exact H2 n (by omega)
def Ej:List Tk→PV×Sto
 |[]=>(.nils,[])
 |t::l=>(.arr 0 l.length 0 (l.length+1) 4,[[.arrv l.length 4 ((t::l).map Tk.pv)]])
theorem QJ(l:List Tk):(Ej l).1.free=true:=by cases l<;>rfl
theorem OP(l:List Tk):(Ej l).1.CE=true:=by cases l<;>rfl
theorem M6(l:List Tk):(Ej l).2.all PV.CP=true:=by
 cases l with
 |nil=>rfl
 |cons t l=>
  show(PV.CP [PV.arrv l.length 4 ((t::l).map Tk.pv)]&&true)=true;simp only[PV.CP,PV.CE,Ol];rfl
theorem o6(t:Tk)(l:List Tk):KR [[PV.arrv l.length 4 ((t::l).map Tk.pv)]] 0 l.length 0 (l.length+1) 4=some ((t::l).map Tk.pv):=by
 have:(t::l).map Tk.pv=((t::l).map Tk.pv).take (l.length+1):=by rw[CS (by simp)]
 simp only[KR,JH,List.getElem?_cons_zero]
 simp only[true_and,if_true];rw[if_pos (by simp),List.drop_zero,←this]
theorem app0(t:Tk):Bh pur run (.w (.Gf 4)) [.nils,.slice true 4 [t.pv]] [] [some (Ej [t]).1] (Ej [t]).2:=⟨0,fun n _=>rfl⟩
theorem app1(t u:Tk)(l:List Tk)(h:l.length+2≤Bn):Bh pur run (.w (.Gf 4)) [(Ej (u::l)).1,.slice true 4 [t.pv]] (Ej (u::l)).2 [some (Ej (u::l++[t])).1] (Ej (u::l++[t])).2:=by
 refine⟨0,fun n _=>?_⟩
 have hr:=o6 u l;show Gf 4 (.arr 0 l.length 0 (l.length+1) 4) [t.pv] [[.arrv l.length 4 ((u::l).map Tk.pv)]]=_;unfold Gf;dsimp only;rw[if_pos rfl,hr];dsimp only;rw[if_neg (by simp),if_pos ⟨by simpa using h,rfl,rfl⟩]
 simp[Ej]
section
variable{cs:List PV}(hn:(PV.func 63 [] cs).CE=true)
def qF(cs:List PV)(a:PV):Frm:=some .nils::some (.func 63 [] cs)::some a::none::some .nils::none::some (.func 63 [] cs)::nn 6
theorem AQL(cs:List PV):FEx (lf62.pre.getD 0 .skip) (some .nils::some (.func 63 [] cs)::nn 11) [] .normal (some .nils::some (.func 63 [] cs)::some .nils::none::some .nils::nn 8) []:=FT []
theorem Bx9(cs:List PV):FEx lf62.rg (some .nils::some (.func 63 [] cs)::some .nils::none::some .nils::nn 8) [] .normal (qF cs .nils) []:=FT []
theorem yK(cs:List PV)(a:PV)(t:Tk)(σ:Sto):FEx lf62.aca (some .nils::some (.func 63 [] cs)::some a::none::some .nils::none::some (.func 63 [] cs)::some t.pv::nn 5) σ .normal
  (some .nils::some (.func 63 [] cs)::some a::none::some .nils::some (.vptr t.pv)::some (.func 63 [] cs)::some t.pv::nn 5) σ:=FT []
theorem BxB(cs:List PV)(t:Tk):FEx lf62.ac (some .nils::some (.func 63 [] cs)::some .nils::none::some .nils::some (.vptr t.pv)::some (.func 63 [] cs)::some t.pv::nn 5) [] .normal
  (some .nils::some (.func 63 [] cs)::some (Ej [t]).1::none::some .nils::some (.vptr t.pv)::some (.func 63 [] cs)::some t.pv::some .nils::some t.pv::some (.slice true 4 [t.pv])::some (Ej [t]).1::nn 1) (Ej [t]).2:=
 FT [st 3 (app0 t)]
theorem BxA(cs:List PV)(t u:Tk)(l:List Tk)(h:l.length+2≤Bn):FEx lf62.ac (some .nils::some (.func 63 [] cs)::some (Ej (u::l)).1::none::some .nils::some (.vptr t.pv)::some (.func 63 [] cs)::some t.pv::nn 5) (Ej (u::l)).2 .normal
  (some .nils::some (.func 63 [] cs)::some (Ej (u::l++[t])).1::none::some .nils::some (.vptr t.pv)::some (.func 63 [] cs)::some t.pv::some (Ej (u::l)).1::some t.pv::some (.slice true 4 [t.pv])::some (Ej (u::l++[t])).1::nn 1) (Ej (u::l++[t])).2:=
 FT [st 3 (app1 t u l h)]
theorem yM(cs:List PV)(t:Tk)(l:List Tk)(h:l.length+2≤Bn):FEx lf62.ac (some .nils::some (.func 63 [] cs)::some (Ej l).1::none::some .nils::some (.vptr t.pv)::some (.func 63 [] cs)::some t.pv::nn 5) (Ej l).2 .normal
  (some .nils::some (.func 63 [] cs)::some (Ej (l++[t])).1::none::some .nils::some (.vptr t.pv)::some (.func 63 [] cs)::some t.pv::some (Ej l).1::some t.pv::some (.slice true 4 [t.pv])::some (Ej (l++[t])).1::nn 1) (Ej (l++[t])).2:=by
 cases l with
 |nil=>exact BxB cs t
 |cons u l=>exact BxA cs t u l (by rw[Al] at h;omega)
theorem yL(cs:List PV)(l:List Tk):FEx lf62.post (qF cs (Ej l).1) (Ej l).2 .ret (some .nils::some (.func 63 [] cs)::some (Ej l).1::none::some (Ej l).1::none::some (.func 63 [] cs)::none::none::none::none::none::[some (Ej l).1]) (Ej l).2:=by
 cases l with
 |nil=>exact FT [] (by kernel_rfl)
 |cons u l=>exact FT [] (by kernel_rfl)
include hn
theorem uf(t:Tk)(l:List Tk)(h:l.length+2≤Bn):∃N,∀n,N≤n→∀m,KS pur (run n) m lf62.aca lf62.ac lf62.La lf62.L (nn 13) lf62.ds [t.pv] (qF cs (Ej l).1) (Ej l).2=some (qF cs (Ej (l++[t])).1,(Ej (l++[t])).2):=by
 have e1:=QJ l;have e2:=QJ (l++[t]);have m1:=OP l;have m2:=OP (l++[t]);have m3:t.pv.CE=true:=rfl;have e3:t.pv.free=true:=rfl;have hn':PV.CP cs=true:=by simpa [PV.CE,PV.CP] using hn
 have k1:C9 lf62.La (some .nils::some (.func 63 [] cs)::some (Ej l).1::none::some .nils::some (.vptr t.pv)::some (.func 63 [] cs)::some t.pv::nn 5)=some .nils::some (.func 63 [] cs)::some (Ej l).1::none::some .nils::some (.vptr t.pv)::some (.func 63 [] cs)::some t.pv::nn 5:=by
  simp only[C9,lf62,nn,List.zipWith,Option.filter,e1,e3];rfl
 have k2:C9 lf62.L (some .nils::some (.func 63 [] cs)::some (Ej (l++[t])).1::none::some .nils::some (.vptr t.pv)::some (.func 63 [] cs)::some t.pv::some (Ej l).1::some t.pv::some (.slice true 4 [t.pv])::some (Ej (l++[t])).1::nn 1)=qF cs (Ej (l++[t])).1:=by
  simp only[C9,lf62,nn,List.zipWith,Option.filter,e2,e3];rfl
 refine ZP (f:=lf62) (X:=nn 13) (yK cs _ t _) k1 ⟨Ij (M6 l) _ ?_,rfl⟩ rfl (yM cs t l h) k2 ⟨Ij (M6 _) _ ?_,rfl⟩ rfl
 ·simp[Ec,nn,PV.CE,PV.CP,m1,m3,hn']
 ·simp[Ec,qF,nn,PV.CE,PV.CP,m2,hn']
theorem jW:∀(L l:List Tk),l.length+L.length+2≤Bn→∃N,∀n,N≤n→∀m,Ia pur (run n) m lf62.aca lf62.ac lf62.La lf62.L (nn 13) lf62.ds (L.map fun t=>[t.pv]) (qF cs (Ej l).1) (Ej l).2=some (qF cs (Ej (l++L)).1,(Ej (l++L)).2)
 |[],l,h=>⟨0,fun n _ m=>by rw[Az];rfl⟩
 |t::L,l,h=>by
  rw[Al] at h;obtain⟨N1,H1⟩:=uf hn t l (by omega)
  obtain⟨N2,H2⟩:=jW L (l++[t]) (by simp;omega)
  refine⟨max N1 N2,fun n hn' m=>?_⟩
  rw[Bv,Ia,H1 n (by omega) m]
  dsimp only;rw[H2 n (by omega) m,AP];rfl
theorem e77(hf:cs.all PV.flat=true){L:List Tk}(hi:itr 63 cs=some (L.map fun t=>[t.pv]))(hL:L.length+2≤Bn):E 62 [.nils,.func 63 [] cs] [] (Ej L).1 (Ej L).2:=by
 have e1:=QJ L;have m1:=OP L;have hn':PV.CP cs=true:=by simpa [PV.CE,PV.CP] using hn
 have k0:IZ (nn 13) (C9 lf62.L (qF cs .nils))=qF cs (Ej []).1:=rfl
 have k4:C9 lf62.Lr (some .nils::some (.func 63 [] cs)::some (Ej L).1::none::some (Ej L).1::none::some (.func 63 [] cs)::none::none::none::none::none::[some (Ej L).1])=some .nils::some (.func 63 [] cs)::some (Ej L).1::none::some (Ej L).1::none::some (.func 63 [] cs)::none::none::none::none::none::[some (Ej L).1]:=by
  simp only[C9,lf62,List.zipWith,Option.filter,e1];rfl
 have ed:(Ej L).1.Ae=(Ej L).1:=by cases L<;>rfl
 refine zh (f:=lf62) (g:=62) (A0:=some .nils::some (.func 63 [] cs)::some .nils::none::some .nils::nn 8) (A1:=qF cs .nils) (A2:=qF cs (Ej L).1) (X:=nn 13) (fun _ _ _=>rfl) ⟨rfl,by show 2≤13;decide⟩ (MG (AQL cs) pre_nil) (Bx9 cs) rfl hi ?_ ⟨Ij rfl _ ?_,rfl,rfl,rfl,hf,by simp<;>(intros;rfl)⟩ ?_ (yL cs L) ⟨.inr rfl,Ij (M6 L) _ ?_,rfl⟩ ?_
 ·have:=FC hn;have h2:FQ .nils=false:=rfl;simp only[IU,lf62,qF,nn,List.zipWith,Option.filter,this,h2];rfl
 ·show(Ec (nn 13) (qF cs .nils)).all _=true;simp[Ec,qF,nn,PV.CE,PV.CP,hn']
 ·rw[k0];exact jW hn L [] (by simpa using hL)
 ·rw[k4];simp[Ec,nn,PV.CE,PV.CP,m1,hn']
 ·rw[k4];show((if KE (Ej L).1 none then some [(Ej L).1.Ae] else(LD (Ej L).1 none).map fun r=>[r]).bind fun vs=>(DL vs).map fun r=>(r,(Ej L).2))=_
  rw[if_pos (by rw[ok_none];exact e1),ed]
  rfl
theorem e24(hf:cs.all PV.flat=true){L:List Tk}(hi:itr 63 cs=some (L.map fun t=>[t.pv]))(hL:L.length+2≤Bn):∃σ,E 23 [.func 63 [] cs] [] (BG 4 (L.map Tk.pv)) σ:=by
 have h:=e77 hn hf hi hL;cases L with
 |nil=>exact⟨_,y24 h rfl rfl ⟨rfl,rfl⟩⟩
 |cons t l=>
  have hz:lJ (Ej (t::l)).1 (Ej (t::l)).2=some (.slice false 4 ((t::l).map Tk.pv),[[.dead]]):=by
   have hr:=o6 t l
   show(match KR [[PV.arrv l.length 4 ((t::l).map Tk.pv)]] 0 l.length 0 (l.length+1) 4 with
    |some es=>if es.all (fun e=>e.flat&&e.cells.all PV.flat) then some (PV.slice false 4 es,([[PV.arrv l.length 4 ((t::l).map Tk.pv)]]:Sto).set 0 [.dead]) else none
    |none=>none)=_
   rw[hr];dsimp only;rw[if_pos (by simp[Tk.pv,PV.flat,PV.cells])]
   rfl
  exact⟨_,y24 h hz rfl ⟨rfl,rfl⟩⟩
end
end Go.Abs.Z

namespace Go.Abs.Z
def Dok(k:Nat)(D:List AD):Prop:=D.Pairwise (fun a b=>a.i<b.i)∧∀d∈D,d.i≤k
theorem Dok.le{k k':Nat}{D:List AD}(h:Dok k D)(hk:k≤k'):Dok k' D:=⟨h.1,fun d hd=>Bf (h.2 d hd) hk⟩
theorem Dok.rp{k:Nat}{D:List AD}(h:Dok k D)(c:Nat)(x:List UInt8):Dok k (rp D c k x):=by
 unfold Z.rp;split
 ·exact h
 ·rename_i hl;refine⟨Et.2 ⟨h.1,by simp,fun a ha b hb=>?_⟩,fun d hd=>?_⟩
  ·rw[CK] at hb;subst hb;show a.i<k;rcases Bc a.i k with h' | h'
   ·exact h'
   ·exfalso
    have hak:a.i=k:=by have:=h.2 a ha;omega
    apply hl;obtain⟨i,hi⟩:=BL.1 ha;have hne:D≠[]:=by intro e;subst e;cases ha
    rw[List.getLast?_eq_some_getLast hne,AO]
    have hm:=List.getLast_mem hne;have h1:=h.2 _ hm;congr 1;have hlt:=(Ad.1 hi).1;by_cases he:i=D.length - 1
    ·rw[List.getLast_eq_getElem hne];have:=(Ad.1 hi).2;subst he;rw[this];exact hak
    ·have hp:=List.pairwise_iff_getElem.1 h.1 i (D.length - 1) hlt (by omega) (by omega)
     rw[(Ad.1 hi).2] at hp;rw[List.getLast_eq_getElem hne];rw[List.getLast_eq_getElem hne] at h1;omega
  ·rcases Cm.1 hd with hd | hd
   ·exact h.2 d hd
   ·rw[CK] at hd;subst hd;exact Ag _
theorem bu:∀(D:List AD) (a k:Nat),D.Pairwise (fun a b=>a.i<b.i)→(∀d∈D,a≤d.i∧d.i≤k)→a≤k+1→D.length+a≤k+1
 |[],a,k,_,_,h=>by simpa using h
 |d::D,a,k,hp,hb,_=>by
  obtain⟨h1,h2⟩:=hb d (AR ..);rw[BR] at hp;have:=bu D (d.i+1) k hp.2 (fun e he=>⟨hp.1 e he,(hb e (AA _ he)).2⟩) (by omega)
  simp only[Al];omega
theorem Dok.len{k:Nat}{D:List AD}(h:Dok k D):D.length≤k+1:=by
 have:=bu D 0 k h.1 (fun d hd=>⟨CR _,h.2 d hd⟩) (by omega)
 omega
section
variable{w:Nat→Wd}{m:Nat}{c:NT→Nat→List AD→K4}
def Bz3(m:Nat)(k:Nat)(D:List AD)(r:Rs×Nat×List AD):Prop:=k≤r.2.1∧r.2.1≤m∧Dok r.2.1 r.2.2
def OkI(m:Nat)(c:NT→Nat→List AD→K4):Prop:=∀x k D r,c x k D=some r→k≤m→Dok k D→Bz3 m k D r
theorem Mw(hm:(w m).1=5)(hc:OkI m c):∀(p:Pg) (k:Nat) (D:List AD) (r:Rs×Nat×List AD),LB w c p k D=some r→k≤m→Dok k D→Bz3 m k D r:=by
 intro p
 induction p with
 |ret v=>intro k D r h hk hD;cases h;exact⟨Ag _,hk,hD⟩
 |look f ih=>intro k D r h hk hD;exact ih _ _ _ k D r h hk hD
 |read p ih=>
  intro k D r h hk hD;simp only[LB] at h
  split at h
  ·cases h
  ·rename_i h5
   have hlt:k<m:=by
    rcases Bc k m with h' | h'
    ·exact h'
    ·have:k=m:=by omega
     subst this;exact absurd hm h5
   obtain⟨h1,h2,h3⟩:=ih (k+1) D r h hlt (hD.le (by omega))
   exact⟨by omega,h2,h3⟩
 |report e t p ih=>
  intro k D r h hk hD;exact ih k (rp D e k t) r h hk (hD.rp e t)
 |call x f ih=>
  intro k D r h hk hD;simp only[LB] at h;obtain⟨⟨v,k1,D1⟩,h1,h2⟩:=AL.1 h;obtain⟨a1,a2,a3⟩:=hc x k D _ h1 hk hD;obtain⟨b1,b2,b3⟩:=ih v k1 D1 r h2 a2 a3;exact⟨Bf a1 b1,b2,b3⟩
theorem F6(hm:(w m).1=5):∀n,OkI m (runN w n)
 |0=>fun x k D r h=>by cases h
 |n+1=>fun x k D r h=>Mw hm (F6 hm n) (prog x) k D r h
structure G3(w:Nat→Wd)(m:Nat)(c:NT→Nat→List AD→K4)(r:Rs×Nat×List AD)(p:Pg)(k:Nat)(D:List AD):Prop where
 run:LB w c p k D=some r
 le:k≤m
 ok:Dok k D
variable{r:Rs×Nat×List AD}{p q:Pg}{k:Nat}{D:List AD}
theorem G3.ifW{ws:List (List UInt8)}(h:G3 w m c r (Pg.ifW ws p q) k D):(ws.contains (w k).2=true∧G3 w m c r p k D)∨(ws.contains (w k).2=false∧G3 w m c r q k D):=by
 have hr:LB w c (if ws.contains (w k).2=true then p else q) k D=some r:=h.run
 cases hb:ws.contains (w k).2 with
 |true=>rw[hb] at hr;exact .inl ⟨rfl,hr,h.le,h.ok⟩
 |false=>rw[hb] at hr;exact .inr ⟨rfl,hr,h.le,h.ok⟩
theorem G3.ifK{j:Nat}(h:G3 w m c r (Pg.ifK j p q) k D):((w k).1=j∧G3 w m c r p k D)∨((w k).1≠j∧G3 w m c r q k D):=by
 have hr:LB w c (if(w k).1=j then p else q) k D=some r:=h.run
 by_cases hb:(w k).1=j
 ·rw[if_pos hb] at hr;exact .inl ⟨hb,hr,h.le,h.ok⟩
 ·rw[if_neg hb] at hr;exact .inr ⟨hb,hr,h.le,h.ok⟩
theorem G3.look{f:Wd→Wd→Nat→Pg}(h:G3 w m c r (.look f) k D):G3 w m c r (f (w k) (w (k+1)) k) k D:=⟨h.run,h.le,h.ok⟩
theorem G3.mrk{g:Nat→Pg}(h:G3 w m c r (Pg.mrk g) k D):G3 w m c r (g k) k D:=⟨h.run,h.le,h.ok⟩
theorem G3.bd{kd f:Nat}{tx:List UInt8}{b:Bool}{ks:List AT}{g:AT→Pg}(h:G3 w m c r (Pg.bd kd tx f b ks g) k D):G3 w m c r (g (.mk kd tx f k b ks)) k D:=⟨h.run,h.le,h.ok⟩
theorem G3.read(hm:(w m).1=5)(h:G3 w m c r (.read p) k D):k<m∧G3 w m c r p (k+1) D:=by
 have hr:=h.run;simp only[LB] at hr
 split at hr
 ·cases hr
 ·rename_i h5
  have hlt:k<m:=by
   rcases Bc k m with h' | h'
   ·exact h'
   ·have:k=m:=by have:=h.le;omega
    subst this;exact absurd hm h5
  exact⟨hlt,hr,hlt,h.ok.le (by omega)⟩
theorem G3.rd(hm:(w m).1=5){g:List UInt8→Pg}(h:G3 w m c r (Pg.rd g) k D):k<m∧G3 w m c r (g (w k).2) (k+1) D:=G3.read hm (p:=g (w k).2) ⟨h.run,h.le,h.ok⟩
theorem G3.rep{e:Nat}{t:List UInt8}(h:G3 w m c r (.report e t p) k D):G3 w m c r p k (rp D e k t):=⟨h.run,h.le,h.ok.rp e t⟩
theorem G3.call(hc:OkI m c){x:NT}{f:Rs→Pg}(h:G3 w m c r (.call x f) k D):∃v k1 D1,c x k D=some (v,k1,D1)∧k≤k1∧G3 w m c r (f v) k1 D1:=by
 have hr:=h.run;simp only[LB] at hr;obtain⟨⟨v,k1,D1⟩,h1,h2⟩:=AL.1 hr;obtain⟨a1,a2,a3⟩:=hc x k D _ h1 h.le h.ok;exact⟨v,k1,D1,h1,a1,h2,a2,a3⟩
theorem G3.cl(hc:OkI m c){x:NT}{g:AT→Pg}(h:G3 w m c r (Pg.cl x g) k D):∃v k1 D1,c x k D=some (v,k1,D1)∧k≤k1∧G3 w m c r (g v.1) k1 D1:=G3.call hc (f:=fun v=>g v.1) ⟨h.run,h.le,h.ok⟩
theorem G3.lst{x:NT}(h:G3 w m c r (Pg.lst x) k D):c x k D=some r:=by
 have hr:(c x k D).bind (fun r=>some (r.1,r.2.1,r.2.2))=some r:=h.run
 obtain⟨v,h1,h2⟩:=AL.1 hr;cases h2;exact h1
theorem G3.ret{v:Rs}(h:G3 w m c r (.ret v) k D):r=(v,k,D):=by
 have:=h.run;cases this;rfl
end
end Go.Abs.Z

namespace Go.Abs.Z
def AT.fst:AT→Nat
 |.mk _ _ f _ _ _=>f
def AT.lst:AT→Nat
 |.mk _ _ _ k _ _=>k
mutual

def AT.ok:AT→Prop
 |.mk _ _ f k _ ks=>f≤k∧ks.length<1000000000∧oks f k ks
def oks:Nat→Nat→List AT→Prop
 |lo,hi,[]=>lo≤hi
 |lo,hi,x::xs=>lo≤x.fst∧x.ok∧oks x.lst hi xs
end
theorem AT.ok.le:∀{x:AT},x.ok→x.fst≤x.lst
 |.mk _ _ _ _ _ _,h=>h.1
theorem oks.le:∀{xs:List AT} {lo hi:Nat},oks lo hi xs→lo≤hi
 |[],_,_,h=>h
 |x::xs,lo,hi,h=>by
  obtain⟨h1,h2,h3⟩:=h;have:=h2.le;have:=oks.le h3;omega
theorem oks.up:∀{xs:List AT} {lo hi hi':Nat},oks lo hi xs→hi≤hi'→oks lo hi' xs
 |[],_,_,_,h,h'=>Bf h h'
 |x::xs,lo,hi,hi',h,h'=>⟨h.1,h.2.1,oks.up h.2.2 h'⟩
theorem oks.down:∀{xs:List AT} {lo lo' hi:Nat},oks lo hi xs→lo'≤lo→oks lo' hi xs
 |[],_,_,_,h,h'=>Bf h' h
 |x::xs,lo,lo',hi,h,h'=>⟨Bf h' h.1,h.2.1,h.2.2⟩
theorem oks.snoc:∀{xs:List AT} {lo hi hi':Nat} {x:AT},oks lo hi xs→hi≤x.fst→x.ok→x.lst≤hi'→oks lo hi' (xs++[x])
 |[],_,_,_,_,h,h1,h2,h3=>⟨Bf h h1,h2,h3⟩
 |y::xs,lo,hi,hi',x,h,h1,h2,h3=>⟨h.1,h.2.1,oks.snoc h.2.2 h1 h2 h3⟩
def In(lo hi:Nat)(x:AT):Prop:=lo≤x.fst∧x.ok∧x.lst≤hi
theorem In.Ka{lo hi:Nat}{x:AT}(h:In lo hi x):oks lo hi [x]:=⟨h.1,h.2.1,h.2.2⟩
theorem In.up{lo hi hi':Nat}{x:AT}(h:In lo hi x)(h':hi≤hi'):In lo hi' x:=⟨h.1,h.2.1,Bf h.2.2 h'⟩
theorem In.down{lo lo' hi:Nat}{x:AT}(h:In lo hi x)(h':lo'≤lo):In lo' hi x:=⟨Bf h' h.1,h.2.1,h.2.2⟩
theorem Md{f k:Nat}{kd:Nat}{tx:List UInt8}{b:Bool}{ks:List AT}(h:oks f k ks)(hl:ks.length<1000000000:=by simp):In f k (.mk kd tx f k b ks):=⟨Ag _,⟨h.le,hl,h⟩,Ag _⟩
theorem in0{f k:Nat}{kd:Nat}{tx:List UInt8}{b:Bool}(h:f≤k):In f k (.mk kd tx f k b []):=Md h (by decide)
theorem FY{lo mid hi:Nat}{x:AT}{xs:List AT}(h:In lo mid x)(h':oks mid hi xs):oks lo hi (x::xs):=⟨h.1,h.2.1,h'.down h.2.2⟩
section
variable{w:Nat→Wd}{m n:Nat}{k f:Nat}{D:List AD}{c:NT→Nat→List AD→K4}{r:Rs×Nat×List AD}{p q:Pg}
def EI(n:Nat):NT→Nat→Rs→Nat→Prop
 |.ex _,k,v,k1=>In k k1 v.1
 |.lp _ f x,k,v,k1=>In f k x→In f k1 v.1
 |.tl _ acc,k,v,k1=>acc.length+n<1000000000→v.2.length<1000000000∧∀lo,oks lo k acc→oks lo k1 v.2
 |.sts acc,k,v,k1=>acc.length+n<1000000000→v.2.length<1000000000∧∀lo,oks lo k acc→oks lo k1 v.2
 |.pg acc,k,v,k1=>acc.length+n<1000000000→v.2.length<1000000000∧∀lo,oks lo k acc→oks lo k1 v.2
 |.bk,k,v,k1=>In k k1 v.1
 |.st,k,v,k1=>In k k1 v.1
 |.br,k,v,k1=>In k k1 v.1
 |.sk _,_,_,_=>True
 |.sp,_,_,_=>True
def QL(m n:Nat)(c:NT→Nat→List AD→K4):Prop:=OkI m c∧∀x k D v k1 D1,c x k D=some (v,k1,D1)→k≤m→Dok k D→EI n x k v k1
theorem iac(hm:(w m).1=5)(x:List UInt8)(h:G3 w m c r (Pg.ifW [x] (.read p) q) k D):G3 w m c r p (k+1) D∨G3 w m c r q k D:=by
 rcases h.ifW with⟨_,h⟩ | ⟨_,h⟩
 ·exact .inl (h.read hm).2
 ·exact .inr h
theorem ixp(hm:(w m).1=5)(x:List UInt8)(h:G3 w m c r (Pg.xp x p) k D):∃k1 D1,k≤k1∧G3 w m c r p k1 D1:=by
 rcases iac hm x h with h | h
 ·exact⟨_,_,by omega,h⟩
 ·exact⟨_,_,Ag _,h.rep⟩
theorem inm(hm:(w m).1=5){g:List UInt8→Pg}(h:G3 w m c r (Pg.nm g) k D):∃x k1 D1,k≤k1∧G3 w m c r (g x) k1 D1:=by
 rcases h.ifK with⟨_,h⟩ | ⟨_,h⟩
 ·exact⟨_,_,_,by omega,(h.rd hm).2⟩
 ·exact⟨_,_,_,Ag _,h.rep⟩
theorem Bk9(hm:(w m).1=5){g:List UInt8→Pg}(h:G3 w m c r (Pg.num g) k D):∃x k1 D1,k≤k1∧G3 w m c r (g x) k1 D1:=by
 rcases h.ifK with⟨_,h⟩ | ⟨_,h⟩
 ·exact⟨_,_,_,by omega,(h.rd hm).2⟩
 ·exact⟨_,_,_,Ag _,h.rep⟩
theorem AwS{g:AT→Pg}(h:G3 w m c r (Pg.nop g) k D):∃x,In k k x∧G3 w m c r (g x) k D:=⟨_,in0 (Ag _),h.mrk.bd⟩
theorem sH{g:AT→Pg}(h:G3 w m c r (Pg.miss g) k D):∃x,In k k x∧G3 w m c r (g x) k D:=⟨_,in0 (Ag _),h.mrk.bd⟩
theorem iwr(hm:(w m).1=5){g:AT→Pg}(h:G3 w m c r (written g) k D):∃x k1 D1,k≤k1∧In k k1 x∧G3 w m c r (g x) k1 D1:=by
 rcases iac hm [58] h with h | h
 ·have h:=h.mrk;rcases iac hm NF h with h | h
  ·rcases iac hm [91] h with h | h
   ·obtain⟨x,k1,D1,l1,h⟩:=Bk9 hm h;obtain⟨k2,D2,l2,h⟩:=ixp hm [93] h;exact⟨_,_,_,by omega,(in0 (f:=k+1) (k:=k2) (by omega)).down (by omega),h.bd⟩
   ·exact⟨_,_,_,by omega,(in0 (f:=k+1) (by omega)).down (by omega),h.bd⟩
  ·rcases iac hm JU h with h | h
   ·exact⟨_,_,_,by omega,(in0 (f:=k+1) (by omega)).down (by omega),h.bd⟩
   ·rcases h.ifK with⟨_,h⟩ | ⟨_,h⟩
    ·exact⟨_,_,_,by omega,(in0 (f:=k+1) (k:=k+1+1) (by omega)).down (by omega),(h.rd hm).2.bd⟩
    ·obtain⟨x,i1,h⟩:=sH h.rep;exact⟨_,_,_,by omega,i1.down (by omega),h⟩
 ·obtain⟨x,i1,h⟩:=AwS h;exact⟨_,_,_,Ag _,i1,h⟩
theorem AwT(hm:(w m).1=5){g:AT→Pg}(h:G3 w m c r (Qz g) k D):∃x k1 D1,k≤k1∧In k k1 x∧G3 w m c r (g x) k1 D1:=by
 obtain⟨x,k1,D1,l1,h⟩:=inm hm h.mrk;obtain⟨k2,D2,l2,h⟩:=ixp hm [58] h;rcases h.ifW with⟨_,h⟩ | ⟨_,h⟩
 ·have h:=(h.mrk.rd hm).2;exact⟨_,_,_,by omega,Md ((in0 (f:=k2) (k:=k2+1) (by omega)).down (by omega)).Ka,h.bd.bd⟩
 ·obtain⟨y,i1,h⟩:=sH h.rep;exact⟨_,_,_,by omega,Md (i1.down (by omega)).Ka,h.bd⟩
theorem AwR(hm:(w m).1=5){g:AT→Pg}(h:G3 w m c r (Qo g) k D):∃x k1 D1,k≤k1∧In k k1 x∧G3 w m c r (g x) k1 D1:=by
 rcases iac hm Og h.mrk with h | h
 ·obtain⟨x,k1,D1,l1,h⟩:=inm hm h;obtain⟨t,k2,D2,l2,i2,h⟩:=iwr hm h;exact⟨_,_,_,by omega,Md (i2.down (by omega)).Ka,h.bd⟩
 ·obtain⟨x,k1,D1,l1,h⟩:=inm hm h;obtain⟨t,k2,D2,l2,i2,h⟩:=iwr hm h;exact⟨_,_,_,by omega,Md (i2.down (by omega)).Ka,h.bd⟩
theorem AWY(hm:(w m).1=5){g:AT→Pg}(h:G3 w m c r (Ja g) k D):∃x k1 D1,k≤k1∧In k k1 x∧G3 w m c r (g x) k1 D1:=by
 obtain⟨x,k1,D1,l1,h⟩:=inm hm h.mrk;exact⟨_,_,_,by omega,in0 (by omega),h.bd⟩
theorem iex(hc:QL m n c){L:Nat}{g:AT→Pg}(h:G3 w m c r (Pg.cl (.ex L) g) k D):∃x k1 D1,k≤k1∧In k k1 x∧G3 w m c r (g x) k1 D1:=by
 obtain⟨v,k1,D1,h1,h2,h3⟩:=h.cl hc.1;exact⟨v.1,k1,D1,h2,hc.2 _ _ _ _ _ _ h1 h.le h.ok,h3⟩
theorem ibk(hc:QL m n c){g:AT→Pg}(h:G3 w m c r (Pg.cl .bk g) k D):∃x k1 D1,k≤k1∧In k k1 x∧G3 w m c r (g x) k1 D1:=by
 obtain⟨v,k1,D1,h1,h2,h3⟩:=h.cl hc.1;exact⟨v.1,k1,D1,h2,hc.2 _ _ _ _ _ _ h1 h.le h.ok,h3⟩
theorem zq(hm:(w m).1=5)(hc:QL m n c)(e:El){g:AT→Pg}(h:G3 w m c r (Wn e g) k D):∃x k1 D1,k≤k1∧In k k1 x∧G3 w m c r (g x) k1 D1:=by
 cases e with
 |fd=>exact AwT hm h
 |pa=>exact AwR hm h
 |ex=>exact iex hc h
theorem jM(hm:(w m).1=5)(hc:QL m n c)(hn:n<900000000)(e:El){g:List AT→Pg}(h:G3 w m c r (Pp e g) k D):∃l k1 D1,k≤k1∧oks k k1 l∧l.length<1000000000∧G3 w m c r (g l) k1 D1:=by
 obtain⟨x,k1,D1,l1,i1,h⟩:=zq hm hc e h;obtain⟨v,k2,D2,h1,l2,h3⟩:=h.call hc.1;obtain⟨b1,b2⟩:=hc.2 _ _ _ _ _ _ h1 h.le h.ok (by simp;omega)
 exact⟨v.2,k2,D2,by omega,b2 k i1.Ka,b1,h3⟩
theorem zt(hm:(w m).1=5)(hc:QL m n c)(hn:n<900000000){g:List AT→Pg}(h:G3 w m c r (Uy g) k D):∃l k1 D1,k≤k1∧oks k k1 l∧l.length<1000000000∧G3 w m c r (g l) k1 D1:=by
 have h:=(h.read hm).2;rcases h.ifW with⟨_,h⟩ | ⟨_,h⟩
 ·obtain⟨k2,D2,l2,h⟩:=ixp hm [41] h;exact⟨[],k2,D2,by omega,show k≤k2 by omega,by decide,h⟩
 ·obtain⟨l,k2,D2,l2,i2,hl,h⟩:=jM hm hc hn .ex h;obtain⟨k3,D3,l3,h⟩:=ixp hm [41] h;exact⟨l,k3,D3,by omega,(i2.down (by omega)).up l3,hl,h⟩
theorem si(hm:(w m).1=5)(hc:QL m n c){g:AT→Pg}(h:G3 w m c r (Ow g) k D):∃x k1 D1,k≤k1∧In k k1 x∧G3 w m c r (g x) k1 D1:=by
 obtain⟨v,k1,D1,l1,i1,h⟩:=AWY hm h.mrk;rcases iac hm [91] h with h | h
 ·obtain⟨y,k2,D2,l2,i2,h⟩:=iex hc h;obtain⟨k3,D3,l3,h⟩:=ixp hm [93] h;exact⟨_,_,_,by omega,Md (FY i1 ((i2.down (by omega)).up l3).Ka),h.bd⟩
 ·rcases iac hm [46] h with h | h
  ·obtain⟨x,k2,D2,l2,h⟩:=inm hm h;exact⟨_,_,_,by omega,Md (i1.up (by omega)).Ka,h.bd⟩
  ·exact⟨_,_,_,l1,i1,h⟩
theorem jL(hm:(w m).1=5)(hc:QL m n c)(hn:n<900000000){g:AT→Pg}(h:G3 w m c r (O5 g) k D):∃x k1 D1,k≤k1∧In k k1 x∧G3 w m c r (g x) k1 D1:=by
 have h:=(h.mrk.read hm).2;obtain⟨x,k1,D1,l1,h⟩:=inm hm h;obtain⟨k2,D2,l2,h⟩:=ixp hm [123] h;obtain⟨l,k3,D3,l3,i3,hl,h⟩:=jM hm hc hn .fd h;obtain⟨k4,D4,l4,h⟩:=ixp hm [125] h;exact⟨_,_,_,by omega,Md ((i3.down (by omega)).up l4) hl,h.bd⟩
theorem yu(hm:(w m).1=5)(hc:QL m n c)(hn:n<900000000){g:AT→Pg}(h:G3 w m c r (Pb g) k D):∃x k1 D1,k≤k1∧In k k1 x∧G3 w m c r (g x) k1 D1:=by
 obtain⟨k1,D1,l1,h⟩:=ixp hm [40] h.mrk;rcases h.ifW with⟨_,h⟩ | ⟨_,h⟩
 ·obtain⟨k2,D2,l2,h⟩:=ixp hm [41] h;exact⟨_,_,_,by omega,in0 (by omega),h.bd⟩
 ·obtain⟨l,k2,D2,l2,i2,hl,h⟩:=jM hm hc hn .pa h;obtain⟨k3,D3,l3,h⟩:=ixp hm [41] h;exact⟨_,_,_,by omega,Md ((i2.down (by omega)).up l3) hl,h.bd⟩
theorem zo(hm:(w m).1=5)(hc:QL m n c)(hn:n<900000000){g:AT→Pg}(h:G3 w m c r (aZ g) k D):∃x k1 D1,k≤k1∧In k k1 x∧G3 w m c r (g x) k1 D1:=by
 have h:=(h.mrk.read hm).2;obtain⟨x,k1,D1,l1,h⟩:=inm hm h;obtain⟨a,k2,D2,l2,i2,h⟩:=yu hm hc hn h;obtain⟨t,k3,D3,l3,i3,h⟩:=iwr hm h;obtain⟨b,k4,D4,l4,i4,h⟩:=ibk hc h;exact⟨_,_,_,by omega,Md (FY (i2.down (by omega)) (FY i3 i4.Ka)),h.bd⟩
theorem KU{kd:Nat}{tx:List UInt8}{us:List AT}(h:G3 w m c r (Pg.nod kd tx f us) k D)(hu:oks f k us)(hl:us.length<1000000000:=by simp):In f r.2.1 r.1.1:=by
 have e:=h.bd.ret;rw[e];exact Md hu hl
theorem BkA(hm:(w m).1=5)(hc:QL m n c)(h:G3 w m c r q9 k D):In k r.2.1 r.1.1:=by
 obtain⟨x,k1,D1,l1,i1,h⟩:=iex hc h.mrk;rcases h.ifW with⟨_,h⟩ | ⟨_,h⟩
 ·have h:=(h.rd hm).2;obtain⟨y,k2,D2,l2,i2,h⟩:=iex hc h;exact KU h (FY i1 (i2.down (by omega)).Ka)
 ·have e:=h.ret;rw[e];exact i1
theorem AWZ(hm:(w m).1=5)(hc:QL m n c)(hn:n<900000000)(h:G3 w m c r bi k D):In k r.2.1 r.1.1:=by
 rcases h.mrk.ifK with⟨_,h⟩ | ⟨_,h⟩
 ·exact KU (h.rd hm).2 (show k≤k+1 by omega)
 rcases h.ifW with⟨_,h⟩ | ⟨_,h⟩
 ·exact KU (h.rd hm).2 (show k≤k+1 by omega)
 have h:=h.look;by_cases hk0:(w k).1=0
 ·by_cases hp:(w (k+1)).2=[40]
  ·rw[if_pos ⟨hk0,hp⟩] at h;obtain⟨l,k3,D3,l3,i3,hl,h⟩:=zt hm hc hn (h.rd hm).2;exact KU h (i3.down (by omega)) hl
  ·rw[if_neg (fun x=>hp x.2),if_pos hk0] at h
   obtain⟨x,k3,D3,l3,i3,h⟩:=si hm hc h;have e:=h.ret;rw[e];exact i3
 ·rw[if_neg (fun x=>hk0 x.1),if_neg hk0] at h
  rcases iac hm [91] h with h | h
  ·obtain⟨l,k3,D3,l3,i3,hl,h⟩:=jM hm hc hn .ex h;obtain⟨k4,D4,l4,h⟩:=ixp hm [93] h;exact KU h ((i3.down (by omega)).up l4) hl
  ·rcases iac hm Oi h with h | h
   ·obtain⟨k3,D3,l3,h⟩:=ixp hm [40] h;obtain⟨v,k4,D4,l4,i4,h⟩:=AWY hm h;obtain⟨k5,D5,l5,h⟩:=ixp hm [41] h;exact KU h ((i4.down (by omega)).up l5).Ka
   ·rcases iac hm [40] h with h | h
    ·obtain⟨x,k3,D3,l3,i3,h⟩:=iex hc h;obtain⟨k4,D4,l4,h⟩:=ixp hm [41] h;have e:=h.ret;rw[e];exact(i3.down (by omega)).up l4
    ·obtain⟨x,i3,h⟩:=sH h.rep;have e:=h.ret;rw[e];exact i3
theorem ist(hm:(w m).1=5)(hc:QL m n c)(hn:n<900000000)(h:G3 w m c r (prog .st) k D):In k r.2.1 r.1.1:=by
 rcases h.ifW with⟨_,h⟩ | ⟨_,h⟩
 ·have h:=(h.mrk.read hm).2;obtain⟨x,k1,D1,l1,h⟩:=inm hm h;obtain⟨t,k2,D2,l2,i2,h⟩:=iwr hm h;obtain⟨k3,D3,l3,h⟩:=ixp hm [61] h;obtain⟨v,k4,D4,l4,i4,h⟩:=iex hc h;obtain⟨k5,D5,l5,h⟩:=ixp hm [59] h;exact KU h (FY (i2.down (by omega)) ((i4.down (by omega)).up l5).Ka)
 rcases h.ifW with⟨_,h⟩ | ⟨_,h⟩
 ·exact hc.2 _ _ _ _ _ _ h.lst h.le h.ok
 rcases h.ifW with⟨_,h⟩ | ⟨_,h⟩
 ·have h:=(h.mrk.read hm).2;obtain⟨u,k1,D1,l1,i1,h⟩:=iex hc h;obtain⟨b,k2,D2,l2,i2,h⟩:=ibk hc h;exact KU h (FY (i1.down (by omega)) i2.Ka)
 rcases h.ifW with⟨_,h⟩ | ⟨_,h⟩
 ·have h:=(h.mrk.read hm).2;obtain⟨x,k1,D1,l1,h⟩:=inm hm h;obtain⟨k2,D2,l2,h⟩:=ixp hm [61] h;obtain⟨u,k3,D3,l3,i3,h⟩:=iex hc h;obtain⟨k4,D4,l4,h⟩:=ixp hm wTo h;obtain⟨v,k5,D5,l5,i5,h⟩:=iex hc h;obtain⟨b,k6,D6,l6,i6,h⟩:=ibk hc h;exact KU h (FY ((i3.down (by omega)).up l4) (FY i5 i6.Ka))
 rcases h.ifW with⟨_,h⟩ | ⟨_,h⟩
 ·have h:=(h.mrk.read hm).2.look;cases hb:Za (w (k+1)) with
  |true=>
   rw[hb,if_pos rfl] at h;obtain⟨x,k2,D2,l2,i2,h⟩:=iex hc h;obtain⟨k3,D3,l3,h⟩:=ixp hm [59] h;exact KU h ((i2.down (by omega)).up l3).Ka
  |false=>
   rw[hb,if_neg (by simp)] at h
   obtain⟨x,i2,h⟩:=AwS h;obtain⟨k3,D3,l3,h⟩:=ixp hm [59] h;exact KU h ((i2.down (by omega)).up l3).Ka
 rcases h.ifW with⟨_,h⟩ | ⟨_,h⟩
 ·have h:=(h.mrk.read hm).2;obtain⟨x,k2,D2,l2,i2,h⟩:=iex hc h;obtain⟨k3,D3,l3,h⟩:=ixp hm [59] h;exact KU h ((i2.down (by omega)).up l3).Ka
 rcases h.ifK with⟨_,h⟩ | ⟨_,h⟩
 ·have h:=h.mrk.look;by_cases hp:(w (k+1)).2=[40]
  ·rw[if_pos hp] at h;obtain⟨l,k3,D3,l3,i3,hl,h⟩:=zt hm hc hn (h.rd hm).2;obtain⟨k4,D4,l4,h⟩:=ixp hm [59] h;exact KU h ((i3.down (by omega)).up l4) hl
  ·rw[if_neg hp] at h;obtain⟨x,k2,D2,l2,i2,h⟩:=si hm hc h;obtain⟨k3,D3,l3,h⟩:=ixp hm [61] h;obtain⟨v,k4,D4,l4,i4,h⟩:=iex hc h;obtain⟨k5,D5,l5,h⟩:=ixp hm [59] h;exact KU h (FY i2 ((i4.down (by omega)).up l5).Ka)
 obtain⟨v,k1,D1,h1,l1,h2⟩:=h.rep.mrk.call hc.1;exact KU h2 (show k≤k1 by omega)
theorem qB(hm:(w m).1=5):∀n,n<900000000→QL m n (runN w n)
 |0,_=>⟨F6 hm 0,fun x k D v k1 D1 h=>by cases h⟩
 |n+1,hn=>by
  have hc:=qB hm n (by omega)
  refine⟨F6 hm (n+1),fun x k D v k1 D1 hrun hk hD=>?_⟩
  have h:G3 w m (runN w n) (v,k1,D1) (prog x) k D:=⟨hrun,hk,hD⟩;have hkk:k≤k1:=(F6 hm (n+1) x k D _ hrun hk hD).1;clear hrun;have hn':n<900000000:=by omega
  cases x with
  |ex L=>
   show In k k1 v.1
   have low:∀L,G3 w m (runN w n) (v,k1,D1) (Pg.mrk fun f=>Pg.cl (.ex (L+1)) fun x=>Pg.lst (.lp L f x)) k D→In k k1 v.1:=by
    intro L h;obtain⟨x,k2,D2,l2,i2,h⟩:=iex hc h.mrk;exact hc.2 _ _ _ _ _ _ h.lst h.le h.ok i2
   by_cases h3:L=3
   ·subst h3;rcases iac hm Oh h.mrk with h | h
    ·obtain⟨x,k2,D2,l2,i2,h⟩:=iex hc h;exact KU h (i2.down (by omega)).Ka
    ·exact BkA hm hc h
   ·by_cases h7:L=7
    ·subst h7;rcases iac hm [45] h.mrk with h | h
     ·obtain⟨x,k2,D2,l2,i2,h⟩:=iex hc h;exact KU h (i2.down (by omega)).Ka
     ·exact AWZ hm hc hn' h
    ·have e:prog (.ex L)=Pg.mrk fun f=>Pg.cl (.ex (L+1)) fun x=>Pg.lst (.lp L f x):=by
      rw[prog]
      ·exact fun h=>h3 h
      ·exact fun h=>h7 h
     rw[e] at h;exact low L h
  |lp L f x=>
   intro hx;rcases G3.ifW (show G3 w m (runN w n) (v,k1,D1) (Pg.ifW (opL L) (Pg.rd fun o=>Pg.cl (.ex (L+1)) fun y=>Pg.bd 29 o f false [x,y] fun z=>Pg.lst (.lp L f z)) (.ret (x,[]))) k D from h) with⟨_,h⟩ | ⟨_,h⟩
   ·have h:=(h.rd hm).2;obtain⟨y,k2,D2,l2,i2,h⟩:=iex hc h;have h:=h.bd;exact hc.2 _ _ _ _ _ _ h.lst h.le h.ok (Md (FY hx (i2.down (by omega)).Ka))
   ·have e:=h.ret;cases e;exact hx
  |tl e acc=>
   intro hl;rcases iac hm [44] h with h | h
   ·obtain⟨x,k2,D2,l2,i2,h⟩:=zq hm hc e h;obtain⟨b1,b2⟩:=hc.2 _ _ _ _ _ _ h.lst h.le h.ok (by simp;omega)
    exact⟨b1,fun lo ha=>b2 lo (ha.snoc (by have:=i2.1;omega) i2.2.1 i2.2.2)⟩
   ·have e:=h.ret;cases e;exact⟨show acc.length<1000000000 by omega,fun lo ha=>ha⟩
  |bk=>
   show In k k1 v.1;rcases iac hm [123] h.mrk with h | h
   ·obtain⟨u,k2,D2,h1,l2,h2⟩:=h.call hc.1;obtain⟨b1,b2⟩:=hc.2 _ _ _ _ _ _ h1 h.le h.ok (by simp;omega)
    obtain⟨k3,D3,l3,h⟩:=ixp hm [125] h2;exact KU h ((b2 k (show k≤k+1 by omega)).up l3) b1
   ·have e:=h.rep.bd.ret;cases e;exact in0 (Ag _)
  |sts acc=>
   intro hl;rcases h.ifW with⟨_,h⟩ | ⟨_,h⟩
   ·have e:=h.ret;cases e;exact⟨show acc.length<1000000000 by omega,fun lo ha=>ha⟩
   ·rcases h.ifK with⟨_,h⟩ | ⟨_,h⟩
    ·have e:=h.ret;cases e;exact⟨show acc.length<1000000000 by omega,fun lo ha=>ha⟩
    ·obtain⟨u,k2,D2,h1,l2,h⟩:=h.cl hc.1;have i2:In k k2 u.1:=hc.2 _ _ _ _ _ _ h1 hk hD;obtain⟨b1,b2⟩:=hc.2 _ _ _ _ _ _ h.lst h.le h.ok (by simp;omega)
     exact⟨b1,fun lo ha=>b2 lo (ha.snoc i2.1 i2.2.1 i2.2.2)⟩
  |st=>exact ist hm hc hn' h
  |br=>
   show In k k1 v.1;have h:=(h.mrk.read hm).2;obtain⟨u,k2,D2,l2,i2,h⟩:=iex hc h;obtain⟨b,k3,D3,l3,i3,h⟩:=ibk hc h;rcases iac hm VC h with h | h
   ·rcases h.ifW with⟨_,h⟩ | ⟨_,h⟩
    ·obtain⟨o,k5,D5,h1,l5,h5⟩:=h.cl hc.1;have i5:In (k3+1) k5 o.1:=hc.2 _ _ _ _ _ _ h1 h.le h.ok;exact KU h5 (FY (i2.down (by omega)) (FY i3 (i5.down (by omega)).Ka))
    ·obtain⟨o,k5,D5,l5,i5,h⟩:=ibk hc h;exact KU h (FY (i2.down (by omega)) (FY i3 (i5.down (by omega)).Ka))
   ·obtain⟨o,i5,h⟩:=AwS h;exact KU h (FY (i2.down (by omega)) (FY i3 i5.Ka))
  |sk f=>trivial
  |sp=>trivial
  |pg acc=>
   intro hl;rcases h.ifK with⟨_,h⟩ | ⟨_,h⟩
   ·have e:=h.ret;cases e;exact⟨show acc.length<1000000000 by omega,fun lo ha=>ha⟩
   ·rcases h.ifW with⟨_,h⟩ | ⟨_,h⟩
    ·obtain⟨x,k2,D2,l2,i2,h⟩:=jL hm hc hn' h;obtain⟨b1,b2⟩:=hc.2 _ _ _ _ _ _ h.lst h.le h.ok (by simp;omega)
     exact⟨b1,fun lo ha=>b2 lo (ha.snoc i2.1 i2.2.1 i2.2.2)⟩
    ·rcases h.ifW with⟨_,h⟩ | ⟨_,h⟩
     ·obtain⟨x,k2,D2,l2,i2,h⟩:=zo hm hc hn' h;obtain⟨b1,b2⟩:=hc.2 _ _ _ _ _ _ h.lst h.le h.ok (by simp;omega)
      exact⟨b1,fun lo ha=>b2 lo (ha.snoc i2.1 i2.2.1 i2.2.2)⟩
     ·have h:=(h.rep.mrk.read hm).2;obtain⟨u,k2,D2,h1,l2,h2⟩:=h.call hc.1;have h3:=h2.bd;have i2:In k k2 (.mk 1 [] k k2 false []):=in0 (by omega)
      obtain⟨b1,b2⟩:=hc.2 _ _ _ _ _ _ h3.lst h3.le h3.ok (by simp;omega)
      exact⟨b1,fun lo ha=>b2 lo (ha.snoc i2.1 i2.2.1 i2.2.2)⟩
theorem pW(hm:(w m).1=5):∀n acc k D v k1 D1,n<900000000→runN w n (.pg acc) k D=some (v,k1,D1)→k≤m→Dok k D→(w k1).1=5
 |0,acc,k,D,v,k1,D1,_,h,_,_=>by cases h
 |n+1,acc,k,D,v,k1,D1,hn1,hrun,hk,hD=>by
  have hI:=F6 hm n;have h:G3 w m (runN w n) (v,k1,D1) (prog (.pg acc)) k D:=⟨hrun,hk,hD⟩;have fin:∀{acc k D},G3 w m (runN w n) (v,k1,D1) (Pg.lst (.pg acc)) k D→(w k1).1=5:=fun h=>pW hm n _ _ _ _ _ _ (by omega) h.lst h.le h.ok
  have hn:n<900000000:=by omega
  ·have hc:=qB hm n hn;rcases h.ifK with⟨h5,h⟩ | ⟨_,h⟩
   ·have e:=h.ret;cases e;exact h5
   ·rcases h.ifW with⟨_,h⟩ | ⟨_,h⟩
    ·obtain⟨x,k2,D2,l2,i2,h⟩:=jL hm hc hn h;exact fin h
    ·rcases h.ifW with⟨_,h⟩ | ⟨_,h⟩
     ·obtain⟨x,k2,D2,l2,i2,h⟩:=zo hm hc hn h;exact fin h
     ·have h:=(h.rep.mrk.read hm).2;obtain⟨u,k2,D2,h1,l2,h2⟩:=h.call hc.1;exact fin h2.bd
end
end Go.Abs.Z
