/- A part of the proof: D15. -/
import Derived.Test.YtgkkkgbknfhbaaaGreatDoorKba

set_option linter.all false
namespace Go.Abs.Z
open Go.Proofs Go.RowKit
section
variable{H T:Sto}{g n:Nat}
def Bd.mono{l m:List Dg}(h:Bd l)(b:∀d∈m,d∈l):Bd m:=λd a=>h d (b d a)
def Ir{l m:List Dg}(h:Asc (l++m)):Asc l:=(Kc.1 h).1
def GX{l m:List Dg}(h:Asc (l++m)):Asc m:=(Kc.1 h).2.1
set_option maxHeartbeats 2000000 in
def AzN(hn:n<1000000000):∀(z:Nat) (P A B Q:List Dg) {a m b:Nat},A.length+B.length<=z->A≠[]->B≠[]->a=P.length->m=a+A.length->b=m+B.length->Asc A->Asc B->Bd (P++A++B++Q)->(P++A++B++Q).length=n->
  ∃R,E 295 [.arr H.length g 0 n 5,N a,N m,N b,fnc] (aS H T g (P++A++B++Q)) (.tuple []) (aS H T g (P++R++Q))/\Sd (A++B) R
 |0,P,A,B,Q,a,m,b,hz,hA,hB,ea,em,eb,sA,sB,hb,hl=>by
  have:=Cv.2 hA;omega
 |z+1,P,A,B,Q,a,m,b,hz,hA,hB,ea,em,eb,sA,sB,hb,hl=>by
  have lA:=Cv.2 hA;have lB:=Cv.2 hB;have hl':=hl;simp only[Ae] at hl';by_cases c1:m - a=1
  ·obtain⟨x,rfl⟩:∃x,A=[x]:=by
    cases A with
    |nil=>cases lA
    |cons x A=>cases A with
     |nil=>exact⟨x,rfl⟩
     |cons=>simp at em;omega
   simp only[Ah,Ba] at em hl' hz;obtain⟨r,L1,r1,r2,r3,r4⟩:=bs0 (H:=H) (T:=T) (g:=g) hn hb hl (a:=a) (m:=m) (b:=b) am am am
   obtain⟨B1,B2,rfl,hB1⟩:∃B1 B2,B=B1++B2/\B1.length=r - m:=⟨B.take (r - m),B.drop (r - m),(BH _ _).symm,by rw[AA];omega⟩
   simp only[Ae] at eb hl' hz
   have hx:ky (P++[x]++(B1++B2)++Q) a=x.a:=by
    rw[show P++[x]++(B1++B2)++Q=P++x::(B1++B2++Q) by simp];exact Xf ea
   have g1:∀u∈[x],∀y∈B1,y.a<u.a:=by
    refine Uy (P:=P) (M:=[]) (Q:=B2++Q) (i:=a) (j:=r - 1) (CU _ _) (Ir sB) ea ?_ ?_
    ·by_cases h0:B1.length=0
     ·simp;omega
     ·simp;omega
    ·rcases r3 with h | h
     ·exact .inr (.inl (Ak.1 am))
     ·refine .inr (.inr ?_)
      rw[show P++[x]++[]++B1++(B2++Q)=P++[x]++(B1++B2)++Q by simp];exact h
   have g2:∀u∈[x],∀y∈B2,u.a<=y.a:=by
    refine Ux (P:=P) (M:=B1) (Q:=Q) (i:=a) (j:=r) (CU _ _) (GX sB) (by simp;omega) (by simp;omega) ?_
    rcases r4 with h | h
    ·exact .inr (.inl (Ak.1 am))
    ·refine .inr (.inr ?_)
     rw[show P++[x]++B1++B2++Q=P++[x]++(B1++B2)++Q by simp];omega
   have L2:=mM (H:=H) (T:=T) (g:=g) hn (a:=a) (m:=m) (b:=b) (r:=r) x (B2++Q) B1 P (k:=a) ea am (by simp;omega)
   refine⟨B1++x::B2,AVF am am am L1 ?_,?_⟩
   ·have e1:P++[x]++(B1++B2)++Q=P++x::(B1++(B2++Q)):=by simp
    have e2:P++(B1++x::B2)++Q=P++(B1++x::(B2++Q)):=by simp
    rw[e1,e2];exact L2
   ·exact Sd.join (A1:=[]) (A2:=[x]) (B1:=B1) (B2:=B2) (R1:=B1) (R2:=x::B2) (Sd.refl (Ir sB)) (Sd.refl (CB.2 ⟨λy hy=>g2 x (by simp) y hy,GX sB⟩)) (CU _ _) sB (λu hu=>by cases hu) g1
  ·by_cases c2:b - m=1
   ·obtain⟨y,rfl⟩:∃y,B=[y]:=by
     cases B with
     |nil=>cases lB
     |cons x A=>cases A with
      |nil=>exact⟨x,rfl⟩
      |cons=>simp at eb;omega
    simp only[Ah,Ba] at eb hl' hz;obtain⟨r,L1,r1,r2,r3,r4⟩:=bs2 (H:=H) (T:=T) (g:=g) hn hb hl (a:=a) (m:=m) (b:=b) am am
    obtain⟨A1,A2,rfl,hA1⟩:∃B1 B2,A=B1++B2/\B1.length=r - a:=⟨A.take (r - a),A.drop (r - a),(BH _ _).symm,by rw[AA];omega⟩
    simp only[Ae] at em hl' hz
    have hy:ky (P++(A1++A2)++[y]++Q) m=y.a:=by
     rw[show P++(A1++A2)++[y]++Q=(P++(A1++A2))++y::Q by simp];exact Xf (by simp;omega)
    have g1:∀u∈A1,∀v∈[y],u.a<=v.a:=by
     by_cases h0:A1.length=0
     ·rw[Ak.1 h0];intro u hu;cases hu
     ·refine Ux (P:=P) (M:=A2) (Q:=Q) (i:=r - 1) (j:=m) (Ir sA) (CU _ _) am am ?_
      rcases r3 with h | h
      ·exact .inl (Ak.1 am)
      ·refine .inr (.inr ?_)
       rw[show P++A1++A2++[y]++Q=P++(A1++A2)++[y]++Q by simp];omega
    have g2:∀u∈A2,∀v∈[y],v.a<u.a:=by
     refine Uy (P:=P++A1) (M:=[]) (Q:=Q) (i:=r) (j:=m) (GX sA) (CU _ _) (by simp;omega) (by simp;omega) ?_
     rcases r4 with h | h
     ·exact .inl (Ak.1 am)
     ·refine .inr (.inr ?_)
      rw[show P++A1++A2++[]++[y]++Q=P++(A1++A2)++[y]++Q by simp];omega
    have L2:=mK (H:=H) (T:=T) (g:=g) hn (a:=a) (m:=m) (b:=b) (r:=r) y A2.length A2 (P++A1) Q (k:=m) rfl (by simp;omega) (by simp;omega) (by simp;omega)
    refine⟨(A1++[y])++A2,AVE am am am am am am L1 ?_,?_⟩
    ·have e1:P++(A1++A2)++[y]++Q=P++A1++A2++y::Q:=by simp
     have e2:P++(A1++[y]++A2)++Q=P++A1++y::(A2++Q):=by simp
     rw[e1,e2];exact L2
    ·exact Sd.join (A1:=A1) (A2:=A2) (B1:=[y]) (B2:=[]) (R1:=A1++[y]) (R2:=A2) (Sd.refl (Kc.2 ⟨Ir sA,CU _ _,g1⟩)) (Sd.oO (GX sA)) sA sB (λu _ v hv=>by cases hv) g2
   ·
    have hmid:a<(a+b) / 2/\(a+b) / 2<b:=am
    obtain⟨r,L1,r1,r2,r3,r4⟩:=bs4 (H:=H) (T:=T) (g:=g) hn hb hl (a:=a) (m:=m) (b:=b) (lo:=if(a+b) / 2<m then(a+b) / 2+m - b else a) (hi:=if(a+b) / 2<m then(a+b) / 2 else m) (p:=(a+b) / 2+m - 1) rfl (by split<;>omega) (by split<;>omega) (by split<;>omega) (by split<;>omega)
    have ra:a<=r:=by split at r1<;>omega
    have rm:r<=m:=by split at r2<;>omega
    have rd:r<=(a+b) / 2:=by split at r2<;>omega
    have rb:(a+b) / 2+m - r<=b:=by split at r1<;>omega
    obtain⟨A1,A2,rfl,hA1⟩:∃B1 B2,A=B1++B2/\B1.length=r - a:=⟨A.take (r - a),A.drop (r - a),(BH _ _).symm,by rw[AA];omega⟩
    obtain⟨B1,B2,rfl,hB1⟩:∃B1 B2,B=B1++B2/\B1.length=(a+b) / 2 - r:=⟨B.take ((a+b) / 2 - r),B.drop ((a+b) / 2 - r),(BH _ _).symm,by rw[AA];omega⟩
    simp only[Ae] at em eb hl' hz;rw[Ae] at lA lB
    have g1:∀u∈A1,∀v∈B2,u.a<=v.a:=by
     by_cases h0:A1.length=0
     ·rw[Ak.1 h0];intro u hu;cases hu
     ·refine Ux (P:=P) (M:=A2++B1) (Q:=Q) (i:=r - 1) (j:=(a+b) / 2+m - 1 - (r - 1)) (Ir sA) (GX sB) am (by simp;omega) ?_
      rcases r3 with h | h
      ·refine .inr (.inl (Ak.1 ?_))
       split at h<;>omega
      ·refine .inr (.inr ?_)
       rw[show P++A1++(A2++B1)++B2++Q=P++(A1++A2)++(B1++B2)++Q by simp];omega
    have g2:∀u∈A2,∀v∈B1,v.a<u.a:=by
     by_cases h0:B1.length=0
     ·rw[Ak.1 h0];intro u _ v hv;cases hv
     ·refine Uy (P:=P++A1) (M:=[]) (Q:=B2++Q) (i:=r) (j:=(a+b) / 2+m - 1 - r) (GX sA) (Ir sB) (by simp;omega) (by simp;omega) ?_
      rcases r4 with h | h
      ·by_cases hh:(a+b) / 2<m
       ·rw[if_pos hh] at h;exact .inr (.inl (Ak.1 am))
       ·rw[if_neg hh] at h;exact .inl (Ak.1 am)
      ·refine .inr (.inr ?_)
       rw[show P++A1++A2++[]++B1++(B2++Q)=P++(A1++A2)++(B1++B2)++Q by simp];omega
    have hmem:∀{X:List Dg} ,(∀d∈X,d∈P++(A1++A2)++(B1++B2)++Q)->Bd X:=λh=>hb.mono h
    obtain⟨R1,k1,f1⟩:∃R1,(a<r/\r<(a+b) / 2->E 295 [.arr H.length g 0 n 5,N a,N r,N ((a+b) / 2),fnc] (aS H T g (P++A1++B1++(A2++B2++Q))) (.tuple []) (aS H T g (P++R1++(A2++B2++Q))))/\Sd (A1++B1) R1/\(¬(a<r/\r<(a+b) / 2)->R1=A1++B1):=by
     by_cases hc:a<r/\r<(a+b) / 2
     ·obtain⟨R,hE,hS⟩:=AzN hn z P A1 B1 (A2++B2++Q) (a:=a) (m:=r) (b:=(a+b) / 2) am (λh=>by rw[h] at hA1;simp at hA1;omega) (λh=>by rw[h] at hB1;simp at hB1;omega) ea am am (Ir sA) (Ir sB) (hmem λd hd=>by simp at hd ⊢;rcases hd with h | h | h | h | h | h<;>simp[h]) (by simp;omega)
      exact⟨R,λ_=>hE,hS,λh=>absurd hc h⟩
     ·refine⟨_,λh=>absurd h hc,?_,λ_=>rfl⟩
      by_cases h0:A1=[]
      ·subst h0;exact Sd.refl (Ir sB)
      ·have:B1=[]:=by
        have:=Cv.2 h0;exact Ak.1 am
       subst this;rw[Az];exact Sd.refl (Ir sA)
    have lR1:=f1.1.len;simp only[Ae] at lR1
    obtain⟨R2,k2,f2⟩:∃R2,(r<m/\(a+b) / 2+m - r<b->E 295 [.arr H.length g 0 n 5,N ((a+b) / 2),N ((a+b) / 2+m - r),N b,fnc] (aS H T g (P++R1++A2++B2++Q)) (.tuple []) (aS H T g (P++R1++R2++Q)))/\Sd (A2++B2) R2/\(¬(r<m/\(a+b) / 2+m - r<b)->R2=A2++B2):=by
     by_cases hc:r<m/\(a+b) / 2+m - r<b
     ·obtain⟨R,hE,hS⟩:=AzN hn z (P++R1) A2 B2 Q (a:=(a+b) / 2) (m:=(a+b) / 2+m - r) (b:=b) am (λh=>by rw[h] at em;simp at em;omega) (λh=>by rw[h] at eb;simp at eb;omega) (by simp;omega) am am (GX sA) (GX sB) (hmem λd hd=>by
       simp only[Bv] at hd ⊢;rw[f1.1.mem,Bv] at hd;rcases hd with(((h | h | h) | h) | h) | h<;>simp[h]) (by simp;omega)
      exact⟨R,λ_=>hE,hS,λh=>absurd hc h⟩
     ·refine⟨_,λh=>absurd h hc,?_,λ_=>rfl⟩
      by_cases h0:A2=[]
      ·subst h0;exact Sd.refl (GX sB)
      ·have:B2=[]:=by
        have:=Cv.2 h0;exact Ak.1 am
       subst this;rw[Az];exact Sd.refl (GX sA)
    refine⟨R1++R2,?_,Sd.join f1.1 f2.1 sA sB g1 g2⟩
    refine og (Ds:=P++(A1++A2)++(B1++B2)++Q) (Ds1:=P++A1++B1++(A2++B2++Q)) (Ds2:=P++R1++(A2++B2++Q)) (Ds3:=P++(R1++R2)++Q) hn am am am c1 c2 rfl rfl L1 r1 r2 ?_ ?_ k1 ?_ ?_ ?_
    ·intro hc;have:=e154 (H:=H) (T:=T) (g:=g) hn (P:=P++A1) (U:=A2) (V:=B1) (Q:=B2++Q) (a:=r) (m:=m) (b:=(a+b) / 2+m - r) (λh=>by rw[h] at em;simp at em;omega) (λh=>by rw[h] at hB1;simp at hB1;omega) (by simp;omega) (by simp;omega) am (by simp;omega)
     simpa using this
    ·intro hc;by_cases h0:A2=[]
     ·subst h0;simp
     ·have:B1=[]:=by
       have:=Cv.2 h0;exact Ak.1 am
      subst this;simp
    ·intro hc;rw[f1.2 hc];simp
    ·intro hc;simpa using k2 hc
    ·intro hc;rw[f2.2 hc];simp
end
end Go.Abs.Z
