/- A part of the proof: D21 WS D22 D23 ZI. -/
import Derived.Test.YtapgnmhobbgmiaaGreatDoorKbg
import Derived.Test.YtapgnmhobbgmiaaGreatDoorKbc
import Derived.Test.YtapgnmhobbgmiaaGreatDoorKbf
import Derived.Test.YtapgnmhobbgmiaaGreatDoorKbe

set_option linter.unusedVariables false
set_option linter.unusedSimpArgs false
namespace Go.Abs.Z
open Go.Proofs Go.RowKit
section
variable{s:List UInt8}{ls:List Tk}{m n:Nat}{k f:Nat}{D:List AD}{c:NT→Nat→List AD→K4}{r:Rs×Nat×List AD}{p q:Pg}
theorem WA(H:CG s ls m)(hk:k≤m){b:Bool}(hb:(decide ((wAt s ls k).1=5)||JF.contains (wAt s ls k).2)=b):E 131 [rf] (RS4 s ls k D) (.bool b) (RS4 s ls k D):=by
 have a1:=u25 (D:=D) H hk;by_cases h5:(wAt s ls k).1=5
 ·have:b=true:=by rw[←hb,decide_eq_true h5];rfl
  rw[this];exact Av9 a1 (by omega)
 ·rw[decide_eq_false h5,Cg] at hb;cases h1:[[125]].contains (wAt s ls k).2 with
  |true=>
   have:b=true:=by rw[←hb,gM h1];rfl
   rw[this];exact Av8 a1 (by omega) (EA H hk [125] h1)
  |false=>
   cases h2:[Iz].contains (wAt s ls k).2 with
   |true=>
    have:b=true:=by rw[←hb,gM h2];rfl
    rw[this];exact Av7 a1 (by omega) (EA H hk [125] h1) (EA H hk Iz h2)
   |false=>
    refine Av6 a1 (by omega) (EA H hk [125] h1) (EA H hk Iz h2) (EA H hk K6 ?_)
    rw[←hb];simp only[JF,BH,Cn,CJ] at h1 h2 ⊢;rw[h1,h2];rfl
theorem AZH(H:CG s ls m)(hk:k≤m){b:Bool}(hb:Y9.contains (wAt s ls k).2=b):E 137 [rf] (RS4 s ls k D) (.bool b) (RS4 s ls k D):=by
 have a1:=u25 (D:=D) H hk;by_cases h1:(wAt s ls k).1=1
 ·have a3:=tq Y9 (wAt s ls k).2 (by decide)
  rw[hb] at a3;exact AkP a1 (by omega) (u56 H hk) a3
 ·have:b=false:=by
   rw[←hb];cases hc:Y9.contains (wAt s ls k).2 with
   |false=>rfl
   |true=>
    obtain⟨t,ht⟩:=H.at hk;rw[Jw ht] at hc h1;exact absurd (H.kw k t ht hc) h1
  rw[this];exact AkO a1 (by omega)
theorem Zw{w:List UInt8}(h:JF.contains w=false):Mm.contains w=Y9.contains w:=by
 simp only[Mm,JF,Y9,BH,Cn,CJ] at h ⊢;simp only[DZ] at h;rw[h.1,h.2.1,h.2.2];simp
theorem eH{w:List UInt8}(h:Mm.contains w=false):JF.contains w=false∧Y9.contains w=false:=by
 simp only[Mm,JF,Y9,BH,Cn,CJ,DZ] at h ⊢;exact⟨⟨h.1,h.2.1,h.2.2.1⟩,h.2.2.2⟩
theorem v84(H:CG s ls m)(hk:k≤m){b:Bool}(hb:((wAt s ls k).1==0||(wAt s ls k).1==2||[Iy,GQ,Oi,[40],[91]].contains (wAt s ls k).2)=b):E 91 [rf] (RS4 s ls k D) (.bool b) (RS4 s ls k D):=by
 have a1:=u25 (D:=D) H hk;by_cases h0:(wAt s ls k).1=0
 ·have:b=true:=by rw[←hb,h0];rfl
  rw[this];exact AJV a1 (by omega)
 by_cases h2:(wAt s ls k).1=2
 ·have:b=true:=by rw[←hb,h2];rfl
  rw[this];exact AJU a1 (by omega) (by omega)
 have e0:((wAt s ls k).1==0)=false:=by simpa using h0
 have e2:((wAt s ls k).1==2)=false:=by simpa using h2
 rw[e0,e2,Cg,Cg] at hb;cases h3:[Iy].contains (wAt s ls k).2 with
 |true=>
  have:b=true:=by rw[←hb,gM h3];rfl
  rw[this];exact AJT a1 (by omega) (by omega) (EA H hk Iy h3)
 |false=>
 cases h4:[GQ].contains (wAt s ls k).2 with
 |true=>
  have:b=true:=by rw[←hb,gM h4];rfl
  rw[this];exact AJS a1 (by omega) (by omega) (EA H hk Iy h3) (EA H hk GQ h4)
 |false=>
 cases h5:[Oi].contains (wAt s ls k).2 with
 |true=>
  have:b=true:=by rw[←hb,gM h5];rfl
  rw[this];exact AJR a1 (by omega) (by omega) (EA H hk Iy h3) (EA H hk GQ h4) (EA H hk Oi h5)
 |false=>
 cases h6:[[40]].contains (wAt s ls k).2 with
 |true=>
  have:b=true:=by rw[←hb,gM h6];rfl
  rw[this];exact AJQ a1 (by omega) (by omega) (EA H hk Iy h3) (EA H hk GQ h4) (EA H hk Oi h5) (EA H hk [40] h6)
 |false=>
  refine AJP a1 (by omega) (by omega) (EA H hk Iy h3) (EA H hk GQ h4) (EA H hk Oi h5) (EA H hk [40] h6) (EA H hk [91] ?_)
  rw[←hb];simp only[BH,Cn,CJ] at h3 h4 h5 h6 ⊢;rw[h3,h4,h5,h6];rfl
theorem mq(a:Wd):Za a=((a.1==0||a.1==2||[Iy,GQ,Oi,[40],[91]].contains a.2)||([Oh].contains a.2||[[45]].contains a.2)):=by
 simp only[Za,gY,BH,Cn,CJ];cases a.1==0<;>cases a.1==2<;>cases a.2==Iy<;>cases a.2==GQ<;>cases a.2==Oh<;>cases a.2==Oi<;>cases a.2==[45]<;>cases a.2==[40]<;>cases a.2==[91]<;>rfl
theorem vst(H:CG s ls m)(hc:OkR s ls m n c)(hn:n+1≤IM)(h:G4 s ls m c r (prog .st) k D):E 43 [rf] (RS4 s ls k D) (trR ls r.1.1).pv (RS4 s ls r.2.1 r.2.2):=by
 have hk:=h.le;rcases h.ifW with⟨b1,h⟩ | ⟨b1,h⟩
 ·have h:=(h.mrk.read (w5 H));have x0:=acT (D:=D) H h.1 Og b1;obtain⟨x,k1,D1,l1,x1,h⟩:=vnm H h.2;obtain⟨t,k2,D2,l2,x2,h⟩:=vwr H h;obtain⟨k3,D3,b3,l3,x3,h⟩:=vxp H [61] h;obtain⟨v,k4,D4,l4,x4,h⟩:=ve1 hc h;obtain⟨k5,D5,b5,l5,x5,h⟩:=vxp H [59] h;obtain⟨y,e,x6⟩:=Im H (f:=k) (by omega) (by simp) h
  rw[e];exact AVH ldK x0 x1 x2 x3 x4 x5 x6
 have a1:=acF (D:=D) H hk Og b1;rcases h.ifW with⟨b2,h⟩ | ⟨b2,h⟩
 ·exact AVG ldK a1 (EA H hk wIf b2) (hc.2 _ _ _ _ _ _ h.lst h.le h.ok b2)
 have a2:=EA (D:=D) H hk wIf b2;rcases h.ifW with⟨b3,h⟩ | ⟨b3,h⟩
 ·have h:=(h.mrk.read (w5 H));have x0:=acT (D:=D) H h.1 Lt b3;obtain⟨u,k1,D1,l1,x2,h⟩:=ve1 hc h.2;obtain⟨b,k2,D2,l2,x3,h⟩:=vbk hc h;obtain⟨y,e,x4⟩:=Im H (f:=k) (by omega) (by simp) h
  rw[e];exact AVF ldK a1 a2 x0 x2 x3 x4
 have a3:=acF (D:=D) H hk Lt b3;rcases h.ifW with⟨b4,h⟩ | ⟨b4,h⟩
 ·have h:=(h.mrk.read (w5 H));have x0:=acT (D:=D) H h.1 RU b4;obtain⟨x,k1,D1,l1,x1,h⟩:=vnm H h.2;obtain⟨k2,D2,b,l2,x2,h⟩:=vxp H [61] h;obtain⟨u,k3,D3,l3,x3,h⟩:=ve1 hc h;obtain⟨k4,D4,b',l4,x4,h⟩:=vxp H wTo h;obtain⟨v,k5,D5,l5,x5,h⟩:=ve1 hc h;obtain⟨b,k6,D6,l6,x6,h⟩:=vbk hc h;obtain⟨y,e,x7⟩:=Im H (f:=k) (by omega) (by simp) h
  rw[e];exact AVE ldK a1 a2 a3 x0 x1 x2 x3 x4 x5 x6 x7
 have a4:=acF (D:=D) H hk RU b4;rcases h.ifW with⟨b5,h⟩ | ⟨b5,h⟩
 ·have h:=(h.mrk.read (w5 H));have x0:=acT (D:=D) H h.1 GH b5;have h:=h.2;have hk1:=h.le;have h:=h.look;have hs:=mq (wAt s ls (k+1));have xn:=MJ (D:=D) H (f:=k+1) (k:=k+1) (Ag _) hk1 0 [] false;cases hbg:Za (wAt s ls (k+1)) with
  |true=>
   rw[hbg,if_pos rfl] at h;rw[hbg] at hs;obtain⟨x,k2,D2,l2,x2,h⟩:=ve1 hc h;obtain⟨k3,D3,b,l3,x3,h⟩:=vxp H [59] h;obtain⟨y,e,x4⟩:=Im H (f:=k) (by omega) (by simp) h
   rw[e];cases h84:((wAt s ls (k+1)).1==0||(wAt s ls (k+1)).1==2||[Iy,GQ,Oi,[40],[91]].contains (wAt s ls (k+1)).2) with
   |true=>exact AVD ldK a1 a2 a3 a4 x0 ldK xn (v84 H hk1 h84) x2 x3 x4
   |false=>
    rw[h84,Cg] at hs;cases hnt:[Oh].contains (wAt s ls (k+1)).2 with
    |true=>exact AVB ldK a1 a2 a3 a4 x0 ldK xn (v84 H hk1 h84) (EA H hk1 Oh hnt) x2 x3 x4
    |false=>
     rw[hnt,Cg] at hs;exact AV9 ldK a1 a2 a3 a4 x0 ldK xn (v84 H hk1 h84) (EA H hk1 Oh hnt) (EA H hk1 [45] hs.symm) x2 x3 x4
  |false=>
   rw[hbg,if_neg (by simp)] at h
   rw[hbg] at hs;obtain⟨hs1,hs2⟩:=DZ.1 hs.symm;obtain⟨hs2,hs3⟩:=DZ.1 hs2;have h:=h.mrk.bd;obtain⟨k3,D3,b,l3,x3,h⟩:=vxp H [59] h;obtain⟨y,e,x4⟩:=Im H (f:=k) (by omega) (by simp) h
   rw[e];exact Aj0 ldK a1 a2 a3 a4 x0 ldK xn (v84 H hk1 hs1) (EA H hk1 Oh hs2) (EA H hk1 [45] hs3) x3 x4
 have a5:=acF (D:=D) H hk GH b5;rcases h.ifW with⟨b6,h⟩ | ⟨b6,h⟩
 ·have h:=(h.mrk.read (w5 H));have x0:=acT (D:=D) H h.1 Jl b6;obtain⟨x,k2,D2,l2,x2,h⟩:=ve1 hc h.2;obtain⟨k3,D3,b,l3,x3,h⟩:=vxp H [59] h;obtain⟨y,e,x4⟩:=Im H (f:=k) (by omega) (by simp) h
  rw[e];exact AVC ldK a1 a2 a3 a4 a5 x0 x2 x3 x4
 have a6:=acF (D:=D) H hk Jl b6;have a7:=u25 (D:=D) H hk;rcases h.ifK with⟨b7,h⟩ | ⟨b7,h⟩
 ·have hlt:=H.lt hk (by omega)
  have h:=h.mrk.look;have a8:=v85 (D:=D) H hlt;by_cases hp:(wAt s ls (k+1)).2=[40]
  ·rw[if_pos hp] at h;obtain⟨x2,h⟩:=vrd H h;obtain⟨l,k3,D3,l3,x3,h⟩:=yZ H hc hn h;obtain⟨k4,D4,b,l4,x4,h⟩:=vxp H [59] h;obtain⟨y,e,x5⟩:=dY H (f:=k) (by omega) h
   rw[e];exact AzZ ldK a1 a2 a3 a4 a5 a6 a7 (by omega) a8 hp x2 x3 x4 x5
  ·rw[if_neg hp] at h;obtain⟨x,k2,D2,l2,x2,h⟩:=nu H hc h;obtain⟨k3,D3,b,l3,x3,h⟩:=vxp H [61] h;obtain⟨v,k4,D4,l4,x4,h⟩:=ve1 hc h;obtain⟨k5,D5,b',l5,x5,h⟩:=vxp H [59] h;obtain⟨y,e,x6⟩:=Im H (f:=k) (by omega) (by simp) h
   rw[e];exact AzY ldK a1 a2 a3 a4 a5 a6 a7 (by omega) a8 hp x2 x3 x4 x5 x6
 obtain⟨x6,h⟩:=v29 H h;obtain⟨v,k1,D1,h1,l1,h2⟩:=h.mrk.call hc.1;obtain⟨y,e,x4⟩:=dZ H (f:=k) (by omega) h2
 rw[e];exact AVA ldK a1 a2 a3 a4 a5 a6 a7 (by omega) (r88 ldK x6 (hc.2 _ _ _ _ _ _ h1 h.le h.ok) x4)
theorem AzA{L:Nat}(hL:L=1∨L=2∨L=5∨L=6){f:Nat}{x:PV}{σ σ':Sto}{U V:Tr}{w:List UInt8}{σ1 σ2:Sto}{W:Tr}
  (a1:E 89 [rf,N L] σ (.bool true) σ) (a2:E 37 [rf] σ (.str w) σ1) (a3:E 41 [rf,N (L+1)] σ1 V.pv σ2) (a4:E 38 [rf,N f,N 29,.str w,.slice false 5 [U.pv,V.pv]] σ2 W.pv σ2)
  (hl:LL a41 0 [(0,some rf),(1,some (N L)),(4,some Z0),(5,some (N f)),(8,some W.pv)] σ2 (.exit 1) [(0,some rf),(1,some (N L)),(4,some Z0),(5,some (N f)),(8,some x)] σ') :
  LL a41 0 [(0,some rf),(1,some (N L)),(4,some Z0),(5,some (N f)),(8,some U.pv)] σ (.exit 1) [(0,some rf),(1,some (N L)),(4,some Z0),(5,some (N f)),(8,some x)] σ':=by
 rcases hL with rfl | rfl | rfl | rfl
 ·exact SG a1 a2 a3 a4 hl
 ·exact SF a1 a2 a3 a4 hl
 ·exact SE a1 a2 a3 a4 hl
 ·exact SC a1 a2 a3 a4 hl
theorem Az9{L:Nat}(hL:L=1∨L=2∨L=5∨L=6){f:Nat}{σ:Sto}{U:Tr}(a1:E 89 [rf,N L] σ (.bool false) σ):
  LL a41 0 [(0,some rf),(1,some (N L)),(4,some Z0),(5,some (N f)),(8,some U.pv)] σ (.exit 1) [(0,some rf),(1,some (N L)),(4,some Z0),(5,some (N f)),(8,some U.pv)] σ:=by
 rcases hL with rfl | rfl | rfl | rfl
 ·exact UT a1
 ·exact UR a1
 ·exact UN a1
 ·exact UM a1
theorem Io(acc:List AT)(x:AT):Tr.pvs (Fw ls (acc++[x]))=Tr.pvs (Fw ls acc++[trR ls x]):=by rw[kg]
theorem okR(H:CG s ls m):∀n,n≤IM→OkR s ls m n (runN (wAt s ls) n)
 |0,_=>⟨F6 (w5 H) 0,fun x k D v k1 D1 h=>by cases h⟩
 |n+1,hn=>by
  have hc:=okR H n (by omega)
  refine⟨F6 (w5 H) (n+1),fun x k D v k1 D1 hrun hk hD=>?_⟩
  have h:G4 s ls m (runN (wAt s ls) n) (v,k1,D1) (prog x) k D:=⟨hrun,hk,hD⟩;clear hrun;have hmx:∀acc:List AT,acc.length+(n+1)≤IM→(Fw ls acc).length+1≤Bn:=fun acc h=>by rw[nD];unfold IM at h;unfold Bn;omega
  cases x with
  |ex L=>
   intro hL
   have low:∀(L:Nat),(L=1∨L=2∨L=5∨L=6)→G4 s ls m (runN (wAt s ls) n) (v,k1,D1) (Pg.mrk fun f=>Pg.cl (.ex (L+1)) fun x=>Pg.lst (.lp L f x)) k D→
     ∃U1:Tr,∃k2 D2,E 41 [rf,N (L+1)] (RS4 s ls k D) U1.pv (RS4 s ls k2 D2)∧
      LL a41 0 [(0,some rf),(1,some (N L)),(4,some Z0),(5,some (N k)),(8,some U1.pv)] (RS4 s ls k2 D2) (.exit 1)
       [(0,some rf),(1,some (N L)),(4,some Z0),(5,some (N k)),(8,some (trR ls v.1).pv)] (RS4 s ls k1 D1):=by
    intro L hL h;obtain⟨x,k2,D2,l2,a1,h⟩:=vex hc (L+1) (by omega) h.mrk
    exact⟨_,_,_,a1,hc.2 _ _ _ _ _ _ h.lst h.le h.ok hL l2⟩
   rcases hL with rfl | rfl | rfl | rfl | rfl | rfl
   ·obtain⟨U,k2,D2,a1,a2⟩:=low 1 (by simp) h
    exact xc ldK a1 a2
   ·obtain⟨U,k2,D2,a1,a2⟩:=low 2 (by simp) h
    exact w9 ldK a1 a2
   ·rcases vac H Oh h.mrk with⟨a1,h,_⟩ | ⟨a1,h,_⟩
    ·obtain⟨x,k2,D2,l2,a2,h⟩:=vex hc 3 (by simp) h
     obtain⟨y,e,a3⟩:=Im H (f:=k) (by omega) (by simp) h
     cases e;exact wZ ldK a1 a2 a3
    ·exact wY ldK a1 (Bj5 H hc h)
   ·obtain⟨U,k2,D2,a1,a2⟩:=low 5 (by simp) h
    exact wS ldK a1 a2
   ·obtain⟨U,k2,D2,a1,a2⟩:=low 6 (by simp) h
    exact wR ldK a1 a2
   ·rcases vac H [45] h.mrk with⟨a1,h,_⟩ | ⟨a1,h,_⟩
    ·obtain⟨x,k2,D2,l2,a2,h⟩:=vex hc 7 (by simp) h
     obtain⟨y,e,a3⟩:=Im H (f:=k) (by omega) (by simp) h
     cases e;exact wQ ldK a1 a2 a3
    ·exact wP ldK a1 (AZG H hc hn h)
  |lp L f x=>
   intro hL hf;rcases G3.ifW (show G4 s ls m (runN (wAt s ls) n) (v,k1,D1) (Pg.ifW (opL L) (Pg.rd fun o=>Pg.cl (.ex (L+1)) fun y=>Pg.bd 29 o f false [x,y] fun z=>Pg.lst (.lp L f z)) (.ret (x,[]))) k D from h) with⟨hb,h⟩ | ⟨hb,h⟩
   ·have a1:=v72 (D:=D) H hk L (by omega) hb
    obtain⟨a2,h⟩:=vrd H h;obtain⟨y,k2,D2,l2,a3,h⟩:=vex hc (L+1) (by omega) h
    have h:=h.bd;exact AzA hL a1 a2 a3 (Qs H (by omega) h.le 29 _ false [x,y]) (hc.2 _ _ _ _ _ _ h.lst h.le h.ok hL (by omega))
   ·have e:=h.ret;cases e;exact Az9 hL (v72 (D:=D) H hk L (by omega) hb)
  |tl e acc=>
   intro hne hl;have hm:=hmx acc hl;rcases vac H [44] h with⟨a1,h,_⟩ | ⟨a1,h,_⟩
   ·cases e with
    |ex=>
     obtain⟨x,k2,D2,l2,a2,h⟩:=ve1 hc (g:=fun x=>Pg.lst (.tl .ex (acc++[x]))) h
     obtain⟨b1,b2,b3⟩:=hc.2 _ _ _ _ _ _ h.lst h.le h.ok (by simp) (by simp;omega)
     simp only[slO,Io] at b2 b3;exact⟨b1,fun a=>Xj a1 a2 hm (b2 a),Xh a1 a2 hm b3⟩
    |fd=>
     obtain⟨x,k2,D2,l2,a2,h⟩:=nA (g:=fun x=>Pg.lst (.tl .fd (acc++[x]))) H h
     obtain⟨b1,b2⟩:=hc.2 _ _ _ _ _ _ h.lst h.le h.ok (by simp) (by simp;omega)
     simp only[slO,Io] at b2;exact⟨b1,fun a x=>XR a1 a2 hm (b2 a x)⟩
    |pa=>
     obtain⟨x,k2,D2,l2,a2,h⟩:=ny (g:=fun x=>Pg.lst (.tl .pa (acc++[x]))) H h
     obtain⟨b1,b2⟩:=hc.2 _ _ _ _ _ _ h.lst h.le h.ok (by simp) (by simp;omega)
     simp only[slO,Io] at b2;exact⟨b1,fun a=>Xm a1 a2 hm (b2 a)⟩
   ·have e2:=h.ret;cases e2;refine⟨hne,?_⟩
    cases e with
    |ex=>exact⟨fun a=>ae a1,Z8 a1⟩
    |fd=>exact fun a x=>aV a1
    |pa=>exact fun a=>ak a1
  |bk=>
   rcases vac H [123] h.mrk with⟨a1,h,_⟩ | ⟨a1,h,_⟩
   ·obtain⟨u,k2,D2,h1,l2,h⟩:=h.call hc.1;have a2:=hc.2 _ _ _ _ _ _ h1 (by have:=h.le;omega) (hD.le (by omega)) (by simp;omega) k
    obtain⟨k3,D3,b,l3,a3,h⟩:=vxp H [125] h;obtain⟨y,e,a4⟩:=dY H (f:=k) (by omega) h
    cases e;exact AKP ldK (y9 a1) a2 a3 a4
   ·obtain⟨a2,h⟩:=v29 H h;have hle:=h.le;have e:=h.bd.ret;cases e;exact AKO ldK (y8 a1 a2) (MJ H (Ag _) hle 11 [] false)
  |sts acc=>
   intro hl a;rcases h.ifW with⟨hb,h⟩ | ⟨hb,h⟩
   ·have e:=h.ret;cases e;exact QU (WA H hk (by rw[hb,Bool.or_true]))
   ·rcases h.ifK with⟨h5,h⟩ | ⟨h5,h⟩
    ·have e:=h.ret;cases e;exact QU (WA H hk (by rw[decide_eq_true h5,Bool.true_or]))
    ·obtain⟨u,k2,D2,h1,l2,h⟩:=h.cl hc.1;have a1:=hc.2 _ _ _ _ _ _ h1 hk hD;have a2:=hc.2 _ _ _ _ _ _ h.lst h.le h.ok (by simp;omega) a
     simp only[slO,Io] at a2;exact Xl (WA H hk (by rw[hb,decide_eq_false h5,Cg])) a1 (hmx acc hl) a2
  |st=>exact vst H hc hn h
  |br=>
   intro hb;obtain⟨a1,h⟩:=VD H h.mrk;obtain⟨u,k2,D2,l2,a2,h⟩:=ve1 hc h;obtain⟨b,k3,D3,l3,a3,h⟩:=vbk hc h;have xn:=MJ (D:=D3) H (f:=k3) (k:=k3) (Ag _) h.le 0 [] false;rcases vac H VC h with⟨a4,h,_⟩ | ⟨a4,h,_⟩
   ·have hk4:=h.le;have ok4:=h.ok;rcases h.ifW with⟨b5,h⟩ | ⟨b5,h⟩
    ·obtain⟨o,k5,D5,h1,l5,h⟩:=h.cl hc.1;have a5:=hc.2 _ _ _ _ _ _ h1 hk4 ok4 b5;obtain⟨y,e,a6⟩:=Im H (f:=k) (by omega) (by simp) h
     cases e;exact AJX ldK a1 a2 a3 ldK xn a4 (EA H hk4 wIf b5) a5 a6
    ·obtain⟨o,k5,D5,l5,a5,h⟩:=vbk hc h;obtain⟨y,e,a6⟩:=Im H (f:=k) (by omega) (by simp) h
     cases e;exact AJW ldK a1 a2 a3 ldK xn a4 (EA H hk4 wIf b5) a5 a6
   ·have h:=h.mrk.bd;obtain⟨y,e,a6⟩:=Im H (f:=k) (by omega) (by simp) h
    cases e;exact AJY ldK a1 a2 a3 ldK xn a4 a6
  |sk f=>
   rcases h.ifK with⟨h5,h⟩ | ⟨h5,h⟩
   ·have e:=h.ret;cases e;exact MB (WA H hk (by rw[decide_eq_true h5,Bool.true_or]))
   ·have h:=h.mrk;by_cases hf:k=f
    ·rw[if_pos hf] at h;rcases h.ifW with⟨hb,h⟩ | ⟨hb,h⟩
     ·have e:=h.ret;cases e;exact MB (WA H hk (by rw[hb,Bool.or_true]))
     ·have a1:=WA (D:=D) H hk (b:=false) (by rw[hb,decide_eq_false h5,Cg])
      obtain⟨a2,h⟩:=vrd H h;by_cases hs:(wAt s ls k).2=[59]
      ·rw[if_pos hs] at h;have e:=h.ret;cases e;exact Z7 a1 ldK (by omega) a2 hs
      ·rw[if_neg hs] at h;exact Xg a1 ldK (by omega) a2 hs (hc.2 _ _ _ _ _ _ h.lst h.le h.ok)
    ·rw[if_neg hf] at h;rcases h.ifW with⟨hb,h⟩ | ⟨hb,h⟩
     ·have e:=h.ret;cases e;cases hst:JF.contains (wAt s ls k).2 with
      |true=>exact MB (WA H hk (by rw[hst,Bool.or_true]))
      |false=>exact Z6 (WA H hk (by rw[hst,decide_eq_false h5,Cg])) ldK (by omega) (AZH H hk (by rw[←Zw hst];exact hb))
     ·obtain⟨c1,c2⟩:=eH hb;have a1:=WA (D:=D) H hk (b:=false) (by rw[c1,decide_eq_false h5,Cg])
      have a0:=AZH (D:=D) H hk c2;obtain⟨a2,h⟩:=vrd H h;by_cases hs:(wAt s ls k).2=[59]
      ·rw[if_pos hs] at h;have e:=h.ret;cases e;exact Z5 a1 ldK (by omega) a0 a2 hs
      ·rw[if_neg hs] at h;exact Xf a1 ldK (by omega) a0 a2 hs (hc.2 _ _ _ _ _ _ h.lst h.le h.ok)
  |sp=>
   intro a us;have a0:=u25 (D:=D) H hk;rcases h.ifK with⟨h5,h⟩ | ⟨h5,h⟩
   ·have e:=h.ret;cases e;exact fw a0 (by omega)
   ·rcases h.ifW with⟨hb,h⟩ | ⟨hb,h⟩
    ·have e:=h.ret;cases e;cases hr:[K6].contains (wAt s ls k).2 with
     |true=>exact fu a0 (by omega) (EA H hk K6 hr)
     |false=>
      refine fq a0 (by omega) (EA H hk K6 hr) (EA H hk Iz ?_)
      simp only[BH,Cn,CJ,CW] at hb hr ⊢;rw[hr] at hb;simpa using hb
    ·obtain⟨b1,b2⟩:=YI hb;obtain⟨a2,h⟩:=VD H h;exact QT a0 (by omega) (EA H hk K6 b2) (EA H hk Iz b1) a2 (hc.2 _ _ _ _ _ _ h.lst h.le h.ok a us)
  |pg acc=>
   intro hl;have a0:=u25 (D:=D) H hk;have hm:=hmx acc hl;rcases h.ifK with⟨h5,h⟩ | ⟨h5,h⟩
   ·have e:=h.ret;cases e;exact fA a0 (by omega)
   ·rcases h.ifW with⟨hb,h⟩ | ⟨hb,h⟩
    ·obtain⟨x,k2,D2,l2,a2,h⟩:=uI H hc (by omega) h
     have a3:=hc.2 _ _ _ _ _ _ h.lst h.le h.ok (by simp;omega)
     simp only[slO,Io] at a3;exact ZY a0 (by omega) (EA H hk K6 hb) a2 hm a3
    ·have a2:=EA (D:=D) H hk K6 hb;rcases h.ifW with⟨hb2,h⟩ | ⟨hb2,h⟩
     ·obtain⟨x,k2,D2,l2,a3,h⟩:=AZF H hc (by omega) h
      have a4:=hc.2 _ _ _ _ _ _ h.lst h.le h.ok (by simp;omega)
      simp only[slO,Io] at a4;exact ZX a0 (by omega) a2 (EA H hk Iz hb2) a3 hm a4
     ·have a3:=EA (D:=D) H hk Iz hb2;obtain⟨a4,h⟩:=v29 H h;have a0':=u25 (D:=rp D 7 k []) H hk;have a2':=EA (D:=rp D 7 k []) H hk K6 hb;have a3':=EA (D:=rp D 7 k []) H hk Iz hb2;obtain⟨a5,h⟩:=VD H h.mrk;obtain⟨u,k2,D2,h1,l2,h2⟩:=h.call hc.1;have a6:=hc.2 _ _ _ _ _ _ h1 h.le h.ok k (Fw ls acc);have a7:=QT a0' (by omega) a2' a3' a5 a6
      have h3:=h2.bd;have a8:=hc.2 _ _ _ _ _ _ h3.lst h3.le h3.ok (by simp;omega)
      simp only[slO,Io] at a8;exact ZW a0 (by omega) a2 a3 ldK a4 a7 (MJ H (by omega) h3.le 1 [] false) hm a8
end
end Go.Abs.Z

namespace Go.Abs.Z
open PV
open Go.Proofs Go.RowKit
variable{c c1 c2 c3:UInt8}{w s s1 s2:List UInt8}{b1:Bool}{i m1 m2:Nat}{e:Cu}{ff':FF}{σ':Sto}{tl1:List Tk}{z1:Int}{dl1 A B dl2 dl3:List Dg}{t1 t2 t3 t4 t5 t6:Tk}{dg1 dg2 dg3:Dg}
theorem R89:Rn 171 a171:=fun _ _ _=>rfl
theorem AJI(c1:(c.toNat:Int)=9):E 171 [.int .u8 (c.toNat:Int)] [] (.bool true) []:=
 rule R89 [sp 2 (BJ .u8 c1)]
theorem AJH(c1:(c.toNat:Int)≠9)(c2:(c.toNat:Int)=10):E 171 [.int .u8 (c.toNat:Int)] [] (.bool true) []:=
 rule R89 [sp 2 (AX .u8 c1),sq 2 (BJ .u8 c2)]
theorem AJG(c1:(c.toNat:Int)≠9)(c2:(c.toNat:Int)≠10)(c3:(c.toNat:Int)=13):E 171 [.int .u8 (c.toNat:Int)] [] (.bool true) []:=
 rule R89 [sp 2 (AX .u8 c1),sq 2 (AX .u8 c2),sq 3 (BJ .u8 c3)]
theorem AJF(c1:(c.toNat:Int)≠9)(c2:(c.toNat:Int)≠10)(c3:(c.toNat:Int)≠13):E 171 [.int .u8 (c.toNat:Int)] [] (.bool ((c.toNat:Int)==32)) []:=
 rule R89 [sp 2 (AX .u8 c1),sq 2 (AX .u8 c2),sq 3 (AX .u8 c3)]
theorem R90:Rn 172 BwA:=fun _ _ _=>rfl
theorem AJE(c1:(c.toNat:Int)≥97):E 172 [.int .u8 (c.toNat:Int)] [] (.bool (decide ((c.toNat:Int)≤122))) []:=
 rule R90 [sp 2 (KZ .u8 c1)]
theorem AJD(c1:¬(c.toNat:Int)≥97):E 172 [.int .u8 (c.toNat:Int)] [] (.bool false) []:=
 rule R90 [sp 2 (LQ .u8 c1)]
theorem R91:Rn 132 BwL:=fun _ _ _=>rfl
theorem AJC(c1:(c.toNat:Int)≥48):E 132 [.int .u8 (c.toNat:Int)] [] (.bool (decide ((c.toNat:Int)≤57))) []:=
 rule R91 [sp 2 (KZ .u8 c1)]
theorem AJB(c1:¬(c.toNat:Int)≥48):E 132 [.int .u8 (c.toNat:Int)] [] (.bool false) []:=
 rule R91 [sp 2 (LQ .u8 c1)]
theorem R92:Rn 173 a173:=fun _ _ _=>rfl
theorem r92(h1:E 135 [.slice false 1 [.str [114,101,99,111,114,100],.str [112,114,111,99],.str [118,97,114],.str [105,102],.str [101,108,115,101],.str [119,104,105,108,101],.str [102,111,114],.str [116,111],.str [114,101,116,117,114,110],.str [97,115,115,101,114,116],.str [97,110,100],.str [111,114],.str [110,111,116],.str [116,114,117,101],.str [102,97,108,115,101],.str [105,110,116],.str [98,111,111,108],.str [108,101,110]],.str w] [] (.bool b1) []):E 173 [.str w] [] (.bool b1) []:=
 rule R92 [st 3 (Fy h1:Bh pur run (.c 135) [.slice true 1 [.str [114,101,99,111,114,100],.str [112,114,111,99],.str [118,97,114],.str [105,102],.str [101,108,115,101],.str [119,104,105,108,101],.str [102,111,114],.str [116,111],.str [114,101,116,117,114,110],.str [97,115,115,101,114,116],.str [97,110,100],.str [111,114],.str [110,111,116],.str [116,114,117,101],.str [102,97,108,115,101],.str [105,110,116],.str [98,111,111,108],.str [108,101,110]],.str w] [] [some (.bool b1)] [])]
theorem R93:Rn 174 Bw9:=fun _ _ _=>rfl
theorem AJA(l1:i<2000000000)(c1:(((i+2):Nat):Int)≤(s.length:Int))(x1:Be (.ssl true true) [.str s,N i,N (i+2)]=some [some (.str s1)])(h1:E 135 [.slice false 1 [.str [61,61],.str [33,61],.str [60,61],.str [62,61]],.str s1] [] (.bool true) []):E 174 [.str s,N i] [] (I 2) []:=
 rule R93 [sp 2 (AB i 2 l1),sp 2 (QG .i64 c1),sq 5 (AB i 2 l1),sq 0 x1,sg 0 (Fy h1:Bh pur run (.c 135) [.slice true 1 [.str [61,61],.str [33,61],.str [60,61],.str [62,61]],.str s1] [] [some (.bool true)] [])]
theorem AJ9(l1:i<2000000000)(c1:¬(((i+2):Nat):Int)≤(s.length:Int))(x1:Be (.ssl true true) [.str s,N i,N (i+1)]=some [some (.str s1)])(h1:E 135 [.slice false 1 [.str [60],.str [62],.str [61],.str [43],.str [45],.str [42],.str [47],.str [37],.str [40],.str [41],.str [123],.str [125],.str [91],.str [93],.str [44],.str [59],.str [58],.str [46]],.str s1] [] (.bool true) []):E 174 [.str s,N i] [] (I 1) []:=
 rule R93 [sp 2 (AB i 2 l1),sp 2 (QH .i64 c1),sp 14 (AB i 1 l1),sp 0 x1,st 0 (Fy h1:Bh pur run (.c 135) [.slice true 1 [.str [60],.str [62],.str [61],.str [43],.str [45],.str [42],.str [47],.str [37],.str [40],.str [41],.str [123],.str [125],.str [91],.str [93],.str [44],.str [59],.str [58],.str [46]],.str s1] [] [some (.bool true)] [])]
theorem AJ8(l1:i<2000000000)(c1:¬(((i+2):Nat):Int)≤(s.length:Int))(x1:Be (.ssl true true) [.str s,N i,N (i+1)]=some [some (.str s1)])(h1:E 135 [.slice false 1 [.str [60],.str [62],.str [61],.str [43],.str [45],.str [42],.str [47],.str [37],.str [40],.str [41],.str [123],.str [125],.str [91],.str [93],.str [44],.str [59],.str [58],.str [46]],.str s1] [] (.bool false) []):E 174 [.str s,N i] [] (I 0) []:=
 rule R93 [sp 2 (AB i 2 l1),sp 2 (QH .i64 c1),sp 14 (AB i 1 l1),sp 0 x1,st 0 (Fy h1:Bh pur run (.c 135) [.slice true 1 [.str [60],.str [62],.str [61],.str [43],.str [45],.str [42],.str [47],.str [37],.str [40],.str [41],.str [123],.str [125],.str [91],.str [93],.str [44],.str [59],.str [58],.str [46]],.str s1] [] [some (.bool false)] [])]
theorem AJ7(l1:i<2000000000)(c1:(((i+2):Nat):Int)≤(s.length:Int))(x1:Be (.ssl true true) [.str s,N i,N (i+2)]=some [some (.str s1)])(h1:E 135 [.slice false 1 [.str [61,61],.str [33,61],.str [60,61],.str [62,61]],.str s1] [] (.bool false) [])(x2:Be (.ssl true true) [.str s,N i,N (i+1)]=some [some (.str s2)])(h2:E 135 [.slice false 1 [.str [60],.str [62],.str [61],.str [43],.str [45],.str [42],.str [47],.str [37],.str [40],.str [41],.str [123],.str [125],.str [91],.str [93],.str [44],.str [59],.str [58],.str [46]],.str s2] [] (.bool true) []):E 174 [.str s,N i] [] (I 1) []:=
 rule R93 [sp 2 (AB i 2 l1),sp 2 (QG .i64 c1),sq 5 (AB i 2 l1),sq 0 x1,sg 0 (Fy h1:Bh pur run (.c 135) [.slice true 1 [.str [61,61],.str [33,61],.str [60,61],.str [62,61]],.str s1] [] [some (.bool false)] []),sp 6 (AB i 1 l1),sp 0 x2,st 0 (Fy h2:Bh pur run (.c 135) [.slice true 1 [.str [60],.str [62],.str [61],.str [43],.str [45],.str [42],.str [47],.str [37],.str [40],.str [41],.str [123],.str [125],.str [91],.str [93],.str [44],.str [59],.str [58],.str [46]],.str s2] [] [some (.bool true)] [])]
theorem AJ6(l1:i<2000000000)(c1:(((i+2):Nat):Int)≤(s.length:Int))(x1:Be (.ssl true true) [.str s,N i,N (i+2)]=some [some (.str s1)])(h1:E 135 [.slice false 1 [.str [61,61],.str [33,61],.str [60,61],.str [62,61]],.str s1] [] (.bool false) [])(x2:Be (.ssl true true) [.str s,N i,N (i+1)]=some [some (.str s2)])(h2:E 135 [.slice false 1 [.str [60],.str [62],.str [61],.str [43],.str [45],.str [42],.str [47],.str [37],.str [40],.str [41],.str [123],.str [125],.str [91],.str [93],.str [44],.str [59],.str [58],.str [46]],.str s2] [] (.bool false) []):E 174 [.str s,N i] [] (I 0) []:=
 rule R93 [sp 2 (AB i 2 l1),sp 2 (QG .i64 c1),sq 5 (AB i 2 l1),sq 0 x1,sg 0 (Fy h1:Bh pur run (.c 135) [.slice true 1 [.str [61,61],.str [33,61],.str [60,61],.str [62,61]],.str s1] [] [some (.bool false)] []),sp 6 (AB i 1 l1),sp 0 x2,st 0 (Fy h2:Bh pur run (.c 135) [.slice true 1 [.str [60],.str [62],.str [61],.str [43],.str [45],.str [42],.str [47],.str [37],.str [40],.str [41],.str [123],.str [125],.str [91],.str [93],.str [44],.str [59],.str [58],.str [46]],.str s2] [] [some (.bool false)] [])]
theorem R94:Rn 175 a175:=fun _ _ _=>rfl
theorem AJ5(g1:(s:List UInt8)[i]?=some c1)(h1:E 172 [.int .u8 (c1.toNat:Int)] [] (.bool true) []):E 175 [.str s,N i] [] (.bool true) []:=
 rule R94 [sp 3 (Bg _ i _ g1),st 0 (oC h1)]
theorem AJ4(g1:(s:List UInt8)[i]?=some c1)(h1:E 172 [.int .u8 (c1.toNat:Int)] [] (.bool false) [])(h2:E 132 [.int .u8 (c1.toNat:Int)] [] (.bool true) []):E 175 [.str s,N i] [] (.bool true) []:=
 rule R94 [sp 3 (Bg _ i _ g1),st 0 (oC h1),sq 3 (Bg _ i _ g1),sg 0 (oC h2)]
theorem AJ3(g1:(s:List UInt8)[i]?=some c1)(h1:E 172 [.int .u8 (c1.toNat:Int)] [] (.bool false) [])(h2:E 132 [.int .u8 (c1.toNat:Int)] [] (.bool false) [])(h3:E 174 [.str s,N i] [] (N m1) []):E 175 [.str s,N i] [] (.bool (decide ((m1:Int) > 0))) []:=
 rule R94 [sp 3 (Bg _ i _ g1),st 0 (oC h1),sq 3 (Bg _ i _ g1),sg 0 (oC h2),sg 4 (oC h3)]
theorem R40:Rn 122 OQ:=fun _ _ _=>rfl
theorem r40(L1:LL OQ 0 [(0,str s),(1,N i)] [] (.exit 0) [(1,N m1)] []):E 122 [.str s,N i] [] (N m1) []:=
 rule R40 [sl 1 [0,1] L1]
theorem QV(c1:¬(m1:Int) < (s.length:Int)):LL OQ 0 [(0,str s),(1,N m1)] [] (.exit 0) [(1,N m1)] []:=
 BA [1] [sp 3 (BN .i64 c1)]
theorem XD(c1:(m1:Int) < (s.length:Int))(g1:(s:List UInt8)[m1]?=some c2)(h1:E 171 [.int .u8 (c2.toNat:Int)] [] (.bool true) [])(c3:(c2.toNat:Int)≠35)(l1:m1<2000000000)(hl:LL OQ 0 [(0,str s),(1,N (m1+1))] [] e ff' σ'):LL OQ 0 [(0,str s),(1,N m1)] [] e ff' σ':=
 BM [0,1] [sp 3 (AQ .i64 c1),sq 3 (Bg _ m1 _ g1),sg 0 (oC h1),sp 10 (Bg _ m1 _ g1),sp 0 (AX .u8 c3),sp 2 (AB m1 1 l1)] hl
theorem XC(c1:(m1:Int) < (s.length:Int))(g1:(s:List UInt8)[m1]?=some c2)(h1:E 171 [.int .u8 (c2.toNat:Int)] [] (.bool false) [])(c3:(c2.toNat:Int)=35)(L1:LL OQ 1 [(0,str s),(1,N m1),(10,str s),(11,N m1),(12,int .u8 (c2.toNat:Int)),(13,bool false),(14,bool false),(15,str s),(16,N m1),(17,int .u8 (c2.toNat:Int)),(18,bool true),(19,bool true)] [] (.exit 2) [(0,str s),(1,N m2),(10,str s),(11,N m1),(12,int .u8 (c2.toNat:Int)),(13,bool false),(14,bool false),(15,str s),(16,N m1),(17,int .u8 (c2.toNat:Int)),(18,bool true),(19,bool true)] [])(hl:LL OQ 0 [(0,str s),(1,N m2)] [] e ff' σ'):LL OQ 0 [(0,str s),(1,N m1)] [] e ff' σ':=
 BM [0,1] [sp 3 (AQ .i64 c1),sq 3 (Bg _ m1 _ g1),sg 0 (oC h1),sq 3 (Bg _ m1 _ g1),sq 0 (BJ .u8 c3),sp 5 (Bg _ m1 _ g1),sp 0 (BJ .u8 c3),sl 1 [0,1,10,11,12,13,14,15,16,17,18,19] L1] hl
theorem aM(c1:(m1:Int) < (s.length:Int))(g1:(s:List UInt8)[m1]?=some c2)(h1:E 171 [.int .u8 (c2.toNat:Int)] [] (.bool false) [])(c3:(c2.toNat:Int)≠35):LL OQ 0 [(0,str s),(1,N m1)] [] (.exit 0) [(1,N m1)] []:=
 BA [1] [sp 3 (AQ .i64 c1),sq 3 (Bg _ m1 _ g1),sg 0 (oC h1),sq 3 (Bg _ m1 _ g1),sq 0 (AX .u8 c3)]
theorem aL(c1:¬(m2:Int) < (s.length:Int)):LL OQ 1 [(0,str s),(1,N m2),(10,str s),(11,N m1),(12,int .u8 (c2.toNat:Int)),(13,bool false),(14,bool false),(15,str s),(16,N m1),(17,int .u8 (c2.toNat:Int)),(18,bool true),(19,bool true)] [] (.exit 2) [(0,str s),(1,N m2),(10,str s),(11,N m1),(12,int .u8 (c2.toNat:Int)),(13,bool false),(14,bool false),(15,str s),(16,N m1),(17,int .u8 (c2.toNat:Int)),(18,bool true),(19,bool true)] []:=
 BA [0,1,10,11,12,13,14,15,16,17,18,19] [sp 3 (BN .i64 c1)]
theorem XB(c1:(m2:Int) < (s.length:Int))(g1:(s:List UInt8)[m2]?=some c3)(c4:(c3.toNat:Int)≠10)(l1:m2<2000000000)(hl:LL OQ 1 [(0,str s),(1,N (m2+1)),(10,str s),(11,N m1),(12,int .u8 (c2.toNat:Int)),(13,bool false),(14,bool false),(15,str s),(16,N m1),(17,int .u8 (c2.toNat:Int)),(18,bool true),(19,bool true)] [] e ff' σ'):LL OQ 1 [(0,str s),(1,N m2),(10,str s),(11,N m1),(12,int .u8 (c2.toNat:Int)),(13,bool false),(14,bool false),(15,str s),(16,N m1),(17,int .u8 (c2.toNat:Int)),(18,bool true),(19,bool true)] [] e ff' σ':=
 BM [0,1,10,11,12,13,14,15,16,17,18,19] [sp 3 (AQ .i64 c1),sq 3 (Bg _ m2 _ g1),sq 0 (DU .u8 c4),sp 3 (AB m2 1 l1)] hl
theorem aK(c1:(m2:Int) < (s.length:Int))(g1:(s:List UInt8)[m2]?=some c3)(c4:(c3.toNat:Int)=10):LL OQ 1 [(0,str s),(1,N m2),(10,str s),(11,N m1),(12,int .u8 (c2.toNat:Int)),(13,bool false),(14,bool false),(15,str s),(16,N m1),(17,int .u8 (c2.toNat:Int)),(18,bool true),(19,bool true)] [] (.exit 2) [(0,str s),(1,N m2),(10,str s),(11,N m1),(12,int .u8 (c2.toNat:Int)),(13,bool false),(14,bool false),(15,str s),(16,N m1),(17,int .u8 (c2.toNat:Int)),(18,bool true),(19,bool true)] []:=
 BA [0,1,10,11,12,13,14,15,16,17,18,19] [sp 3 (AQ .i64 c1),sq 3 (Bg _ m2 _ g1),sq 0 (DF .u8 c4)]
theorem R41:Rn 123 Jv:=fun _ _ _=>rfl
theorem AV8(g1:(s:List UInt8)[i]?=some c1)(h1:E 172 [.int .u8 (c1.toNat:Int)] [] (.bool true) [])(L1:LL Jv 0 [(0,str s),(1,N i),(6,N i)] [] (.exit 1) [(0,str s),(1,N i),(6,N m1)] [])(x1:Be (.ssl true true) [.str s,N i,N m1]=some [some (.str s1)])(h2:E 173 [.str s1] [] (.bool true) []):E 123 [.str s,N i] [] (.tuple [I 1,N m1]) []:=
 rule R41 [sp 6 (Bg _ i _ g1),st 0 (oC h1),sl 2 [0,1,6] L1,sp 3 x1,st 0 (oC h2)]
theorem AV7(g1:(s:List UInt8)[i]?=some c1)(h1:E 172 [.int .u8 (c1.toNat:Int)] [] (.bool true) [])(L1:LL Jv 0 [(0,str s),(1,N i),(6,N i)] [] (.exit 1) [(0,str s),(1,N i),(6,N m1)] [])(x1:Be (.ssl true true) [.str s,N i,N m1]=some [some (.str s1)])(h2:E 173 [.str s1] [] (.bool false) []):E 123 [.str s,N i] [] (.tuple [I 0,N m1]) []:=
 rule R41 [sp 6 (Bg _ i _ g1),st 0 (oC h1),sl 2 [0,1,6] L1,sp 3 x1,st 0 (oC h2)]
theorem AV6(g1:(s:List UInt8)[i]?=some c1)(h1:E 172 [.int .u8 (c1.toNat:Int)] [] (.bool false) [])(h2:E 132 [.int .u8 (c1.toNat:Int)] [] (.bool true) [])(L1:LL Jv 1 [(0,str s),(1,N i),(6,N i)] [] (.exit 3) [(0,str s),(1,N i),(6,N m1)] []):E 123 [.str s,N i] [] (.tuple [I 2,N m1]) []:=
 rule R41 [sp 6 (Bg _ i _ g1),st 0 (oC h1),sp 4 (Bg _ i _ g1),st 0 (oC h2),sl 2 [0,1,6] L1]
theorem AV5(g1:(s:List UInt8)[i]?=some c1)(h1:E 172 [.int .u8 (c1.toNat:Int)] [] (.bool false) [])(h2:E 132 [.int .u8 (c1.toNat:Int)] [] (.bool false) [])(h3:E 174 [.str s,N i] [] (N m1) [])(c2:(m1:Int) > 0)(h4:E 174 [.str s,N i] [] (N m2) [])(l1:i<2000000000)(l2:m2<2000000000):E 123 [.str s,N i] [] (.tuple [I 3,N (i+m2)]) []:=
 rule R41 [sp 6 (Bg _ i _ g1),st 0 (oC h1),sp 4 (Bg _ i _ g1),st 0 (oC h2),st 4 (oC h3),sp 0 (CX .i64 c2),st 5 (oC h4),sp 0 (AB i m2 l1 l2)]
theorem AV4(g1:(s:List UInt8)[i]?=some c1)(h1:E 172 [.int .u8 (c1.toNat:Int)] [] (.bool false) [])(h2:E 132 [.int .u8 (c1.toNat:Int)] [] (.bool false) [])(h3:E 174 [.str s,N i] [] (N m1) [])(c2:¬(m1:Int) > 0)(L1:LL Jv 2 [(0,str s),(1,N i),(6,N i)] [] (.exit 5) [(0,str s),(1,N i),(6,N m2)] []):E 123 [.str s,N i] [] (.tuple [I 4,N m2]) []:=
 rule R41 [sp 6 (Bg _ i _ g1),st 0 (oC h1),sp 4 (Bg _ i _ g1),st 0 (oC h2),st 4 (oC h3),sp 0 (DI .i64 c2),sl 2 [0,1,6] L1]
theorem aJ(c1:¬(m1:Int) < (s.length:Int)):LL Jv 0 [(0,str s),(1,N i),(6,N m1)] [] (.exit 1) [(0,str s),(1,N i),(6,N m1)] []:=
 BA [0,1,6] [sp 3 (BN .i64 c1)]
theorem XA(c1:(m1:Int) < (s.length:Int))(g1:(s:List UInt8)[m1]?=some c2)(h1:E 172 [.int .u8 (c2.toNat:Int)] [] (.bool true) [])(l1:m1<2000000000)(hl:LL Jv 0 [(0,str s),(1,N i),(6,N (m1+1))] [] e ff' σ'):LL Jv 0 [(0,str s),(1,N i),(6,N m1)] [] e ff' σ':=
 BM [0,1,6] [sp 3 (AQ .i64 c1),sq 3 (Bg _ m1 _ g1),sg 0 (oC h1),sp 15 (AB m1 1 l1)] hl
theorem Xz(c1:(m1:Int) < (s.length:Int))(g1:(s:List UInt8)[m1]?=some c2)(h1:E 172 [.int .u8 (c2.toNat:Int)] [] (.bool false) [])(h2:E 132 [.int .u8 (c2.toNat:Int)] [] (.bool true) [])(l1:m1<2000000000)(hl:LL Jv 0 [(0,str s),(1,N i),(6,N (m1+1))] [] e ff' σ'):LL Jv 0 [(0,str s),(1,N i),(6,N m1)] [] e ff' σ':=
 BM [0,1,6] [sp 3 (AQ .i64 c1),sq 3 (Bg _ m1 _ g1),sg 0 (oC h1),sq 3 (Bg _ m1 _ g1),sg 0 (oC h2),sp 10 (AB m1 1 l1)] hl
theorem Xy(c1:(m1:Int) < (s.length:Int))(g1:(s:List UInt8)[m1]?=some c2)(h1:E 172 [.int .u8 (c2.toNat:Int)] [] (.bool false) [])(h2:E 132 [.int .u8 (c2.toNat:Int)] [] (.bool false) [])(c3:(c2.toNat:Int)=95)(l1:m1<2000000000)(hl:LL Jv 0 [(0,str s),(1,N i),(6,N (m1+1))] [] e ff' σ'):LL Jv 0 [(0,str s),(1,N i),(6,N m1)] [] e ff' σ':=
 BM [0,1,6] [sp 3 (AQ .i64 c1),sq 3 (Bg _ m1 _ g1),sg 0 (oC h1),sq 3 (Bg _ m1 _ g1),sg 0 (oC h2),sq 4 (Bg _ m1 _ g1),sq 0 (BJ .u8 c3),sp 4 (AB m1 1 l1)] hl
theorem aI(c1:(m1:Int) < (s.length:Int))(g1:(s:List UInt8)[m1]?=some c2)(h1:E 172 [.int .u8 (c2.toNat:Int)] [] (.bool false) [])(h2:E 132 [.int .u8 (c2.toNat:Int)] [] (.bool false) [])(c3:(c2.toNat:Int)≠95):LL Jv 0 [(0,str s),(1,N i),(6,N m1)] [] (.exit 1) [(0,str s),(1,N i),(6,N m1)] []:=
 BA [0,1,6] [sp 3 (AQ .i64 c1),sq 3 (Bg _ m1 _ g1),sg 0 (oC h1),sq 3 (Bg _ m1 _ g1),sg 0 (oC h2),sq 4 (Bg _ m1 _ g1),sq 0 (AX .u8 c3)]
theorem aH(c1:¬(m1:Int) < (s.length:Int)):LL Jv 1 [(0,str s),(1,N i),(6,N m1)] [] (.exit 3) [(0,str s),(1,N i),(6,N m1)] []:=
 BA [0,1,6] [sp 3 (BN .i64 c1)]
theorem Xx(c1:(m1:Int) < (s.length:Int))(g1:(s:List UInt8)[m1]?=some c2)(h1:E 132 [.int .u8 (c2.toNat:Int)] [] (.bool true) [])(l1:m1<2000000000)(hl:LL Jv 1 [(0,str s),(1,N i),(6,N (m1+1))] [] e ff' σ'):LL Jv 1 [(0,str s),(1,N i),(6,N m1)] [] e ff' σ':=
 BM [0,1,6] [sp 3 (AQ .i64 c1),sq 3 (Bg _ m1 _ g1),sg 0 (oC h1),sp 3 (AB m1 1 l1)] hl
theorem aG(c1:(m1:Int) < (s.length:Int))(g1:(s:List UInt8)[m1]?=some c2)(h1:E 132 [.int .u8 (c2.toNat:Int)] [] (.bool false) []):LL Jv 1 [(0,str s),(1,N i),(6,N m1)] [] (.exit 3) [(0,str s),(1,N i),(6,N m1)] []:=
 BA [0,1,6] [sp 3 (AQ .i64 c1),sq 3 (Bg _ m1 _ g1),sg 0 (oC h1)]
theorem aF(c1:¬(m1:Int) < (s.length:Int)):LL Jv 2 [(0,str s),(1,N i),(6,N m1)] [] (.exit 5) [(0,str s),(1,N i),(6,N m1)] []:=
 BA [0,1,6] [sp 3 (BN .i64 c1)]
theorem aD(c1:(m1:Int) < (s.length:Int))(g1:(s:List UInt8)[m1]?=some c2)(h1:E 171 [.int .u8 (c2.toNat:Int)] [] (.bool true) []):LL Jv 2 [(0,str s),(1,N i),(6,N m1)] [] (.exit 5) [(0,str s),(1,N i),(6,N m1)] []:=
 BA [0,1,6] [sp 3 (AQ .i64 c1),sq 3 (Bg _ m1 _ g1),sg 0 (oC h1)]
theorem aC(c1:(m1:Int) < (s.length:Int))(g1:(s:List UInt8)[m1]?=some c2)(h1:E 171 [.int .u8 (c2.toNat:Int)] [] (.bool false) [])(c3:(c2.toNat:Int)=35):LL Jv 2 [(0,str s),(1,N i),(6,N m1)] [] (.exit 5) [(0,str s),(1,N i),(6,N m1)] []:=
 BA [0,1,6] [sp 3 (AQ .i64 c1),sq 3 (Bg _ m1 _ g1),sg 0 (oC h1),sq 5 (Bg _ m1 _ g1),sq 0 (DF .u8 c3)]
theorem aB(c1:(m1:Int) < (s.length:Int))(g1:(s:List UInt8)[m1]?=some c2)(h1:E 171 [.int .u8 (c2.toNat:Int)] [] (.bool false) [])(c3:(c2.toNat:Int)≠35)(h2:E 175 [.str s,N m1] [] (.bool true) []):LL Jv 2 [(0,str s),(1,N i),(6,N m1)] [] (.exit 5) [(0,str s),(1,N i),(6,N m1)] []:=
 BA [0,1,6] [sp 3 (AQ .i64 c1),sq 3 (Bg _ m1 _ g1),sg 0 (oC h1),sq 5 (Bg _ m1 _ g1),sq 0 (DU .u8 c3),sg 4 (oC h2)]
theorem Xw(c1:(m1:Int) < (s.length:Int))(g1:(s:List UInt8)[m1]?=some c2)(h1:E 171 [.int .u8 (c2.toNat:Int)] [] (.bool false) [])(c3:(c2.toNat:Int)≠35)(h2:E 175 [.str s,N m1] [] (.bool false) [])(l1:m1<2000000000)(hl:LL Jv 2 [(0,str s),(1,N i),(6,N (m1+1))] [] e ff' σ'):LL Jv 2 [(0,str s),(1,N i),(6,N m1)] [] e ff' σ':=
 BM [0,1,6] [sp 3 (AQ .i64 c1),sq 3 (Bg _ m1 _ g1),sg 0 (oC h1),sq 5 (Bg _ m1 _ g1),sq 0 (DU .u8 c3),sg 4 (oC h2),sp 4 (AB m1 1 l1)] hl
theorem R18:Rn 68 a68:=fun _ _ _=>rfl
theorem AW5(c1:¬(s.length:Int) > 4096)(L1:LL a68 0 [(0,str s),(4,slice true 4 []),(5,I 0)] [] .ret [(2,slice true 4 (tl1.map Tk.pv)),(3,I 0)] []):E 68 [.str s] [] (.tuple [.slice false 4 (tl1.map Tk.pv),I 0]) []:=
 rule R18 [sp 4 (DI .i64 c1),sl 4 [0,4,5] L1]
theorem aY(h1:E 122 [.str s,N m1] [] (N m2) [])(c1:(m2:Int)=(s.length:Int))(l1:tl1.length+1≤Bn):LL a68 0 [(0,str s),(4,slice true 4 (tl1.map Tk.pv)),(5,N m1)] [] .ret [(2,slice true 4 ((tl1++[Tk.mk 5 m1 m2 m2]).map Tk.pv)),(3,I 0)] []:=
 BA [2,3] [st 2 (oC h1),sp 4 (BJ .i64 c1),sp 7 (Zc true (Tk.mk 5 m1 m2 m2) l1)]
theorem XY{m3:Nat}{m4:Nat}(h1:E 122 [.str s,N m1] [] (N m2) [])(c1:(m2:Int)≠(s.length:Int))(h2:E 123 [.str s,N m2] [] (.tuple [N m3,N m4]) [])(l1:tl1.length+1≤Bn)(hl:LL a68 0 [(0,str s),(4,slice true 4 ((tl1++[Tk.mk m3 m1 m2 m4]).map Tk.pv)),(5,N m4)] [] e ff' σ'):LL a68 0 [(0,str s),(4,slice true 4 (tl1.map Tk.pv)),(5,N m1)] [] e ff' σ':=
 BM [0,4,5] [st 2 (oC h1),sp 4 (AX .i64 c1),st 3 (oC h2),sp 12 (Zc true (Tk.mk m3 m1 m2 m4) l1)] hl
theorem R64:Rn 86 a86:=fun _ _ _=>rfl
theorem AKN(c1:(w.length:Int) < 1):E 86 [.str w] [] (.tuple [I 0,.bool false]) []:=
 rule R64 [sp 4 (AQ .i64 c1)]
theorem AKM(c1:¬(w.length:Int) < 1)(c2:(w.length:Int) > 9):E 86 [.str w] [] (.tuple [I 0,.bool false]) []:=
 rule R64 [sp 4 (BN .i64 c1),sq 3 (CX .i64 c2)]
theorem AKL(c1:¬(w.length:Int) < 1)(c2:¬(w.length:Int) > 9)(L1:LL a86 0 [(0,str w),(4,I 0),(5,I 0)] [] (.exit 0) [(0,str w),(4,I z1)] []):E 86 [.str w] [] (.tuple [I z1,.bool true]) []:=
 rule R64 [sp 4 (BN .i64 c1),sq 3 (DI .i64 c2),sl 4 [0,4,5] L1]
theorem AKK(c1:¬(w.length:Int) < 1)(c2:¬(w.length:Int) > 9)(L1:LL a86 0 [(0,str w),(4,I 0),(5,I 0)] [] .ret [(2,I 0),(3,bool false)] []):E 86 [.str w] [] (.tuple [I 0,.bool false]) []:=
 rule R64 [sp 4 (BN .i64 c1),sq 3 (DI .i64 c2),sl 4 [0,4,5] L1]
theorem aj(c1:¬(m1:Int) < (w.length:Int)):LL a86 0 [(0,str w),(4,I z1),(5,N m1)] [] (.exit 0) [(0,str w),(4,I z1)] []:=
 BA [0,4] [sp 3 (BN .i64 c1)]
theorem O6{z2:Int}{z3:Int}{z4:Int}{z5:Int}(c1:(m1:Int) < (w.length:Int))(g1:(w:List UInt8)[m1]?=some c2)(h1:E 132 [.int .u8 (c2.toNat:Int)] [] (.bool true) [])(w1:IntKind.i64.wrap (10 * z1)=z2)(w2:IntKind.u8.wrap ((c2.toNat:Int) - 48)=z3)(w3:IntKind.i64.wrap z3=z4)(w4:IntKind.i64.wrap (z2+z4)=z5)(l1:m1<2000000000)(hl:LL a86 0 [(0,str w),(4,I z5),(5,N (m1+1))] [] e ff' σ'):LL a86 0 [(0,str w),(4,I z1),(5,N m1)] [] e ff' σ':=
 BM [0,4,5] [sp 3 (AQ .i64 c1),sp 3 (Bg _ m1 _ g1),st 0 (oC h1),sp 3 (fU w1),sp 2 (Bg _ m1 _ g1),sp 0 (WG w2),sp 0 (Y0 (k:=.u8) w3),sp 0 (il w4),sp 2 (AB m1 1 l1)] hl
theorem ai(c1:(m1:Int) < (w.length:Int))(g1:(w:List UInt8)[m1]?=some c2)(h1:E 132 [.int .u8 (c2.toNat:Int)] [] (.bool false) []):LL a86 0 [(0,str w),(4,I z1),(5,N m1)] [] .ret [(2,I 0),(3,bool false)] []:=
 BA [2,3] [sp 3 (AQ .i64 c1),sp 3 (Bg _ m1 _ g1),st 0 (oC h1)]
theorem R33:Rn 40 a40:=fun _ _ _=>rfl
theorem r33(h1:E 68 [.str s] [] (.tuple [.slice false 4 (tl1.map Tk.pv),I z1]) [])(L1:LL a40 0 [(0,str s),(3,slice true 5 []),(4,slice false 4 (tl1.map Tk.pv)),(6,I 0)] [] (.exit 0) [(0,str s),(3,slice true 5 (dl1.map Dg.pv))] []):E 40 [.str s] [] (.slice false 5 (dl1.map Dg.pv)) []:=
 rule R33 [st 4 (oC h1),sl 6 [0,3,4,6] L1]
theorem aT(c1:¬(m1:Int) < (tl1.length:Int)):LL a40 0 [(0,str s),(3,slice true 5 (dl1.map Dg.pv)),(4,slice false 4 (tl1.map Tk.pv)),(6,N m1)] [] (.exit 0) [(0,str s),(3,slice true 5 (dl1.map Dg.pv))] []:=
 BA [0,3] [sp 2 (FL false 4 tl1),sp 0 (BN .i64 c1)]
theorem XL(c1:(m1:Int) < (tl1.length:Int))(g1:tl1[m1]?=some t1)(h1:E 87 [.str s,t1.pv] [] (.str s1) [])(h2:E 86 [.str s1] [] (.tuple [I z1,.bool b1]) [])(g2:tl1[m1]?=some t2)(c2:(t2.k:Int)=4)(g3:tl1[m1]?=some t3)(g4:tl1[m1]?=some t4)(l1:dl1.length+1≤Bn)(l2:m1<2000000000)(hl:LL a40 0 [(0,str s),(3,slice true 5 ((dl1++[Dg.mk 1 t3.a t4.e []]).map Dg.pv)),(4,slice false 4 (tl1.map Tk.pv)),(6,N (m1+1))] [] e ff' σ'):LL a40 0 [(0,str s),(3,slice true 5 (dl1.map Dg.pv)),(4,slice false 4 (tl1.map Tk.pv)),(6,N m1)] [] e ff' σ':=
 BM [0,3,4,6] [sp 2 (FL false 4 tl1),sp 0 (AQ .i64 c1),sp 5 (BO (o:=false) (s:=4) m1 g1),st 1 (oC h1),st 0 (oC h2),sp 7 (BO (o:=false) (s:=4) m1 g2),sp 2 (BJ .i64 c2),sp 10 (BO (o:=false) (s:=4) m1 g3),sp 4 (BO (o:=false) (s:=4) m1 g4),sp 4 (KL true (Dg.mk 1 t3.a t4.e []) l1),sp 2 (AB m1 1 l2)] hl
theorem XK(c1:(m1:Int) < (tl1.length:Int))(g1:tl1[m1]?=some t1)(h1:E 87 [.str s,t1.pv] [] (.str s1) [])(h2:E 86 [.str s1] [] (.tuple [I z1,.bool false]) [])(g2:tl1[m1]?=some t2)(c2:(t2.k:Int)≠4)(g3:tl1[m1]?=some t3)(c3:(t3.k:Int)=2)(g4:tl1[m1]?=some t4)(g5:tl1[m1]?=some t5)(l1:dl1.length+1≤Bn)(l2:m1<2000000000)(hl:LL a40 0 [(0,str s),(3,slice true 5 ((dl1++[Dg.mk 2 t4.a t5.e []]).map Dg.pv)),(4,slice false 4 (tl1.map Tk.pv)),(6,N (m1+1))] [] e ff' σ'):LL a40 0 [(0,str s),(3,slice true 5 (dl1.map Dg.pv)),(4,slice false 4 (tl1.map Tk.pv)),(6,N m1)] [] e ff' σ':=
 BM [0,3,4,6] [sp 2 (FL false 4 tl1),sp 0 (AQ .i64 c1),sp 5 (BO (o:=false) (s:=4) m1 g1),st 1 (oC h1),st 0 (oC h2),sp 7 (BO (o:=false) (s:=4) m1 g2),sp 2 (AX .i64 c2),sp 4 (BO (o:=false) (s:=4) m1 g3),sp 2 (BJ .i64 c3),sp 14 (BO (o:=false) (s:=4) m1 g4),sp 4 (BO (o:=false) (s:=4) m1 g5),sp 4 (KL true (Dg.mk 2 t4.a t5.e []) l1),sp 2 (AB m1 1 l2)] hl
theorem XJ(c1:(m1:Int) < (tl1.length:Int))(g1:tl1[m1]?=some t1)(h1:E 87 [.str s,t1.pv] [] (.str s1) [])(h2:E 86 [.str s1] [] (.tuple [I z1,.bool b1]) [])(g2:tl1[m1]?=some t2)(c2:(t2.k:Int)≠4)(g3:tl1[m1]?=some t3)(c3:(t3.k:Int)≠2)(g4:tl1[m1]?=some t4)(c4:(t4.k:Int)≠0)(l1:m1<2000000000)(hl:LL a40 0 [(0,str s),(3,slice true 5 (dl1.map Dg.pv)),(4,slice false 4 (tl1.map Tk.pv)),(6,N (m1+1))] [] e ff' σ'):LL a40 0 [(0,str s),(3,slice true 5 (dl1.map Dg.pv)),(4,slice false 4 (tl1.map Tk.pv)),(6,N m1)] [] e ff' σ':=
 BM [0,3,4,6] [sp 2 (FL false 4 tl1),sp 0 (AQ .i64 c1),sp 5 (BO (o:=false) (s:=4) m1 g1),st 1 (oC h1),st 0 (oC h2),sp 7 (BO (o:=false) (s:=4) m1 g2),sp 2 (AX .i64 c2),sp 4 (BO (o:=false) (s:=4) m1 g3),sp 2 (AX .i64 c3),sp 8 (BO (o:=false) (s:=4) m1 g4),sp 2 (AX .i64 c4),sp 20 (AB m1 1 l1)] hl
theorem XI(c1:(m1:Int) < (tl1.length:Int))(g1:tl1[m1]?=some t1)(h1:E 87 [.str s,t1.pv] [] (.str s1) [])(h2:E 86 [.str s1] [] (.tuple [I z1,.bool true]) [])(g2:tl1[m1]?=some t2)(c2:(t2.k:Int)≠4)(g3:tl1[m1]?=some t3)(c3:(t3.k:Int)=2)(g4:tl1[m1]?=some t4)(c4:(t4.k:Int)≠0)(l1:m1<2000000000)(hl:LL a40 0 [(0,str s),(3,slice true 5 (dl1.map Dg.pv)),(4,slice false 4 (tl1.map Tk.pv)),(6,N (m1+1))] [] e ff' σ'):LL a40 0 [(0,str s),(3,slice true 5 (dl1.map Dg.pv)),(4,slice false 4 (tl1.map Tk.pv)),(6,N m1)] [] e ff' σ':=
 BM [0,3,4,6] [sp 2 (FL false 4 tl1),sp 0 (AQ .i64 c1),sp 5 (BO (o:=false) (s:=4) m1 g1),st 1 (oC h1),st 0 (oC h2),sp 7 (BO (o:=false) (s:=4) m1 g2),sp 2 (AX .i64 c2),sp 4 (BO (o:=false) (s:=4) m1 g3),sp 2 (BJ .i64 c3),sp 8 (BO (o:=false) (s:=4) m1 g4),sp 2 (AX .i64 c4),sp 20 (AB m1 1 l1)] hl
theorem XH{t7:Tk}{t8:Tk}(c1:(m1:Int) < (tl1.length:Int))(g1:tl1[m1]?=some t1)(h1:E 87 [.str s,t1.pv] [] (.str s1) [])(h2:E 86 [.str s1] [] (.tuple [I z1,.bool b1]) [])(g2:tl1[m1]?=some t2)(c2:(t2.k:Int)≠4)(g3:tl1[m1]?=some t3)(c3:(t3.k:Int)≠2)(g4:tl1[m1]?=some t4)(c4:(t4.k:Int)=0)(g5:tl1[m1]?=some t5)(g6:tl1[m1]?=some t6)(l1:t6.a≤t5.e)(l2:t5.e<2000000000)(c5:(((t5.e - t6.a):Nat):Int) > 16)(g7:tl1[m1]?=some t7)(g8:tl1[m1]?=some t8)(l3:dl1.length+1≤Bn)(l4:m1<2000000000)(hl:LL a40 0 [(0,str s),(3,slice true 5 ((dl1++[Dg.mk 3 t7.a t8.e []]).map Dg.pv)),(4,slice false 4 (tl1.map Tk.pv)),(6,N (m1+1))] [] e ff' σ'):LL a40 0 [(0,str s),(3,slice true 5 (dl1.map Dg.pv)),(4,slice false 4 (tl1.map Tk.pv)),(6,N m1)] [] e ff' σ':=
 BM [0,3,4,6] [sp 2 (FL false 4 tl1),sp 0 (AQ .i64 c1),sp 5 (BO (o:=false) (s:=4) m1 g1),st 1 (oC h1),st 0 (oC h2),sp 7 (BO (o:=false) (s:=4) m1 g2),sp 2 (AX .i64 c2),sp 4 (BO (o:=false) (s:=4) m1 g3),sp 2 (AX .i64 c3),sp 8 (BO (o:=false) (s:=4) m1 g4),sp 2 (BJ .i64 c4),sq 3 (BO (o:=false) (s:=4) m1 g5),sq 4 (BO (o:=false) (s:=4) m1 g6),sq 2 (Dl t5.e t6.a l1 l2),sq 0 (CX .i64 c5),sp 11 (BO (o:=false) (s:=4) m1 g7),sp 4 (BO (o:=false) (s:=4) m1 g8),sp 4 (KL true (Dg.mk 3 t7.a t8.e []) l3),sp 2 (AB m1 1 l4)] hl
theorem XG(c1:(m1:Int) < (tl1.length:Int))(g1:tl1[m1]?=some t1)(h1:E 87 [.str s,t1.pv] [] (.str s1) [])(h2:E 86 [.str s1] [] (.tuple [I z1,.bool b1]) [])(g2:tl1[m1]?=some t2)(c2:(t2.k:Int)≠4)(g3:tl1[m1]?=some t3)(c3:(t3.k:Int)≠2)(g4:tl1[m1]?=some t4)(c4:(t4.k:Int)=0)(g5:tl1[m1]?=some t5)(g6:tl1[m1]?=some t6)(l1:t6.a≤t5.e)(l2:t5.e<2000000000)(c5:¬(((t5.e - t6.a):Nat):Int) > 16)(l3:m1<2000000000)(hl:LL a40 0 [(0,str s),(3,slice true 5 (dl1.map Dg.pv)),(4,slice false 4 (tl1.map Tk.pv)),(6,N (m1+1))] [] e ff' σ'):LL a40 0 [(0,str s),(3,slice true 5 (dl1.map Dg.pv)),(4,slice false 4 (tl1.map Tk.pv)),(6,N m1)] [] e ff' σ':=
 BM [0,3,4,6] [sp 2 (FL false 4 tl1),sp 0 (AQ .i64 c1),sp 5 (BO (o:=false) (s:=4) m1 g1),st 1 (oC h1),st 0 (oC h2),sp 7 (BO (o:=false) (s:=4) m1 g2),sp 2 (AX .i64 c2),sp 4 (BO (o:=false) (s:=4) m1 g3),sp 2 (AX .i64 c3),sp 8 (BO (o:=false) (s:=4) m1 g4),sp 2 (BJ .i64 c4),sq 3 (BO (o:=false) (s:=4) m1 g5),sq 4 (BO (o:=false) (s:=4) m1 g6),sq 2 (Dl t5.e t6.a l1 l2),sq 0 (DI .i64 c5),sp 7 (AB m1 1 l3)] hl
theorem R32:Rn 39 a39:=fun _ _ _=>rfl
theorem r32(L1:LL a39 0 [(0,slice false 5 (A.map Dg.pv)),(1,slice false 5 (B.map Dg.pv)),(5,slice true 5 [])] [] (.exit 0) [(5,slice true 5 (dl1.map Dg.pv))] []):E 39 [.slice false 5 (A.map Dg.pv),.slice false 5 (B.map Dg.pv)] [] (.slice false 5 (dl1.map Dg.pv)) []:=
 rule R32 [sl 3 [0,1,5] L1]
theorem XQ(c1:(dl1.length:Int) > 0)(c2:(dl2.length:Int)=0)(g1:dl1[0]?=some dg1)(l1:dl3.length+1≤Bn)(l2:1≤dl1.length)(hl:LL a39 0 [(0,slice false 5 (dl1.tail.map Dg.pv)),(1,slice false 5 (dl2.map Dg.pv)),(5,slice true 5 ((dl3++[dg1]).map Dg.pv))] [] e ff' σ'):LL a39 0 [(0,slice false 5 (dl1.map Dg.pv)),(1,slice false 5 (dl2.map Dg.pv)),(5,slice true 5 (dl3.map Dg.pv))] [] e ff' σ':=
 BM [0,1,5] [sp 1 (F3 false 5 dl1),sp 0 (CX .i64 c1),sp 7 (F3 false 5 dl2),sp 0 (BJ .i64 c2),sp 19 (JL (o:=false) (s:=5) 0 g1),sp 2 (KL true dg1 l1),sp 1 (OU (o:=false) l2)] hl
theorem aU(c1:¬(dl1.length:Int) > 0)(c2:¬(dl2.length:Int) > 0):LL a39 0 [(0,slice false 5 (dl1.map Dg.pv)),(1,slice false 5 (dl2.map Dg.pv)),(5,slice true 5 (dl3.map Dg.pv))] [] (.exit 0) [(5,slice true 5 (dl3.map Dg.pv))] []:=
 BA [5] [sp 1 (F3 false 5 dl1),sp 0 (DI .i64 c1),sq 2 (F3 false 5 dl2),sq 0 (DI .i64 c2)]
theorem XP(c1:(dl1.length:Int) > 0)(c2:(dl2.length:Int)≠0)(g1:dl1[0]?=some dg1)(g2:dl2[0]?=some dg2)(c3:(dg1.a:Int)≤(dg2.a:Int))(g3:dl1[0]?=some dg3)(l1:dl3.length+1≤Bn)(l2:1≤dl1.length)(hl:LL a39 0 [(0,slice false 5 (dl1.tail.map Dg.pv)),(1,slice false 5 (dl2.map Dg.pv)),(5,slice true 5 ((dl3++[dg3]).map Dg.pv))] [] e ff' σ'):LL a39 0 [(0,slice false 5 (dl1.map Dg.pv)),(1,slice false 5 (dl2.map Dg.pv)),(5,slice true 5 (dl3.map Dg.pv))] [] e ff' σ':=
 BM [0,1,5] [sp 1 (F3 false 5 dl1),sp 0 (CX .i64 c1),sp 7 (F3 false 5 dl2),sp 0 (AX .i64 c2),sq 2 (F3 false 5 dl1),sq 0 (CX .i64 c1),sq 2 (JL (o:=false) (s:=5) 0 g1),sq 3 (JL (o:=false) (s:=5) 0 g2),sq 2 (QG .i64 c3),sp 5 (JL (o:=false) (s:=5) 0 g3),sp 2 (KL true dg3 l1),sp 1 (OU (o:=false) l2)] hl
theorem XO(c1:(dl1.length:Int) > 0)(c2:(dl2.length:Int)≠0)(g1:dl1[0]?=some dg1)(g2:dl2[0]?=some dg2)(c3:¬(dg1.a:Int)≤(dg2.a:Int))(g3:dl2[0]?=some dg3)(l1:dl3.length+1≤Bn)(l2:1≤dl2.length)(hl:LL a39 0 [(0,slice false 5 (dl1.map Dg.pv)),(1,slice false 5 (dl2.tail.map Dg.pv)),(5,slice true 5 ((dl3++[dg3]).map Dg.pv))] [] e ff' σ'):LL a39 0 [(0,slice false 5 (dl1.map Dg.pv)),(1,slice false 5 (dl2.map Dg.pv)),(5,slice true 5 (dl3.map Dg.pv))] [] e ff' σ':=
 BM [0,1,5] [sp 1 (F3 false 5 dl1),sp 0 (CX .i64 c1),sp 7 (F3 false 5 dl2),sp 0 (AX .i64 c2),sq 2 (F3 false 5 dl1),sq 0 (CX .i64 c1),sq 2 (JL (o:=false) (s:=5) 0 g1),sq 3 (JL (o:=false) (s:=5) 0 g2),sq 2 (QH .i64 c3),sp 5 (JL (o:=false) (s:=5) 0 g3),sp 2 (KL true dg3 l1),sp 1 (OU (o:=false) l2)] hl
theorem XN(c1:¬(dl1.length:Int) > 0)(c2:(dl2.length:Int) > 0)(c3:(dl2.length:Int)≠0)(g1:dl2[0]?=some dg1)(l1:dl3.length+1≤Bn)(l2:1≤dl2.length)(hl:LL a39 0 [(0,slice false 5 (dl1.map Dg.pv)),(1,slice false 5 (dl2.tail.map Dg.pv)),(5,slice true 5 ((dl3++[dg1]).map Dg.pv))] [] e ff' σ'):LL a39 0 [(0,slice false 5 (dl1.map Dg.pv)),(1,slice false 5 (dl2.map Dg.pv)),(5,slice true 5 (dl3.map Dg.pv))] [] e ff' σ':=
 BM [0,1,5] [sp 1 (F3 false 5 dl1),sp 0 (DI .i64 c1),sq 2 (F3 false 5 dl2),sq 0 (CX .i64 c2),sp 3 (F3 false 5 dl2),sp 0 (AX .i64 c3),sq 2 (F3 false 5 dl1),sq 0 (DI .i64 c1),sp 15 (JL (o:=false) (s:=5) 0 g1),sp 2 (KL true dg1 l1),sp 1 (OU (o:=false) l2)] hl
theorem BjC(L1:LL a39 0 [(0,slice false 5 (A.map Dg.pv)),(1,nils),(5,slice true 5 [])] [] (.exit 0) [(5,slice true 5 (dl1.map Dg.pv))] []):E 39 [.slice false 5 (A.map Dg.pv),.nils] [] (.slice false 5 (dl1.map Dg.pv)) []:=
 rule R32 [sl 3 [0,1,5] L1]
theorem UU(c1:(dl1.length:Int) > 0)(g1:dl1[0]?=some dg1)(l1:dl2.length+1≤Bn)(l2:1≤dl1.length)(hl:LL a39 0 [(0,slice false 5 (dl1.tail.map Dg.pv)),(1,nils),(5,slice true 5 ((dl2++[dg1]).map Dg.pv))] [] e ff' σ'):LL a39 0 [(0,slice false 5 (dl1.map Dg.pv)),(1,nils),(5,slice true 5 (dl2.map Dg.pv))] [] e ff' σ':=
 BM [0,1,5] [sp 1 (F3 false 5 dl1),sp 0 (CX .i64 c1),sp 28 (JL (o:=false) (s:=5) 0 g1),sp 2 (KL true dg1 l1),sp 1 (OU (o:=false) l2)] hl
theorem XM(c1:¬(dl1.length:Int) > 0):LL a39 0 [(0,slice false 5 (dl1.map Dg.pv)),(1,nils),(5,slice true 5 (dl2.map Dg.pv))] [] (.exit 0) [(5,slice true 5 (dl2.map Dg.pv))] []:=
 BA [5] [sp 1 (F3 false 5 dl1),sp 0 (DI .i64 c1)]
end Go.Abs.Z

namespace Go.Abs.Z
open Go.Proofs Go.RowKit
theorem f89(c:UInt8):E 171 [.int .u8 ((c.toNat:Nat):Int)] [] (.bool (whB c)) []:=by
 unfold whB;by_cases h1:c=9
 ·subst h1;exact AJI rfl
 by_cases h2:c=10
 ·subst h2;exact AJH (by decide) rfl
 by_cases h3:c=13
 ·subst h3;exact AJG (by decide) (by decide) rfl
 have e:(((c.toNat:Nat):Int)==32)=(c==32):=by
  by_cases h4:c=32
  ·subst h4;rfl
  ·rw[beq_eq_false_iff_ne.2 h4,beq_eq_false_iff_ne];exact fun h=>h4 ((u8i c 32).1 h)
 have:=AJF (c:=c) (fun h=>h1 ((u8i c 9).1 h)) (fun h=>h2 ((u8i c 10).1 h)) (fun h=>h3 ((u8i c 13).1 h))
 rw[e] at this;rw[beq_eq_false_iff_ne.2 h1,beq_eq_false_iff_ne.2 h2,beq_eq_false_iff_ne.2 h3];simpa using this
theorem f90(c:UInt8):E 172 [.int .u8 ((c.toNat:Nat):Int)] [] (.bool (leB c)) []:=by
 unfold leB;by_cases h:97≤c.toNat
 ·have:=AJE (c:=c) (by omega)
  rw[decide_eq_true h,Cy];have e:decide (((c.toNat:Nat):Int)≤122)=decide (c.toNat≤122):=by by_cases h2:c.toNat≤122<;>simp[h2]<;>omega
  rwa [e] at this
 ·rw[decide_eq_false h,DJ];exact AJD (by omega)
theorem f91(c:UInt8):E 132 [.int .u8 ((c.toNat:Nat):Int)] [] (.bool (diB c)) []:=by
 unfold diB;by_cases h:48≤c.toNat
 ·have:=AJC (c:=c) (by omega)
  rw[decide_eq_true h,Cy];have e:decide (((c.toNat:Nat):Int)≤57)=decide (c.toNat≤57):=by by_cases h2:c.toNat≤57<;>simp[h2]<;>omega
  rwa [e] at this
 ·rw[decide_eq_false h,DJ];exact AJB (by omega)
theorem f92(w:List UInt8):E 173 [.str w] [] (.bool (kwL.contains w)) []:=r92 (tq kwL w (by decide))
def AzE:List (List UInt8):=[[61,61],[33,61],[60,61],[62,61]]
theorem sy2(c d:UInt8):AzE.contains [c,d]=decide (d=61∧(c=61∨c=33∨c=60∨c=62)):=by
 have h:∀x y:UInt8,(([c,d]:List UInt8)==[x,y])=(decide (c=x)&&decide (d=y)):=by
  intro x y;by_cases h1:c=x<;>by_cases h2:d=y<;>simp[h1,h2]
 simp only[AzE,BH,Cn,CJ,h];by_cases h1:d=61<;>by_cases h2:c=61<;>by_cases h3:c=33<;>by_cases h4:c=60<;>by_cases h5:c=62<;>simp[h1,h2,h3,h4,h5]
theorem sy1(c:UInt8):∀l:List UInt8,(l.map fun x=>[x]).contains [c]=l.contains c
 |[]=>rfl
 |x::l=>by
  rw[Bv,BH,BH,sy1 c l];congr 1;by_cases h:c=x<;>simp[h]
theorem f93(s:List UInt8)(hs:s.length<1000000)(i:Nat)(hi:i<s.length):E 174 [.str s,N i] [] (N (H6 (s.drop i))) []:=by
 obtain⟨c,l,h1,h2,h3⟩:=OC hi;have x1:=NU s i (i+1);rw[h1,show i+1 - i=1 by omega] at x1
 have a1:=tq (GU.map fun x=>[x]) [c] (by decide)
 rw[sy1] at a1;rw[h1];rcases Bc (i+1) s.length with hlt | hge
 ·obtain⟨d,l',g1,g2,g3⟩:=OC hlt;rw[h3] at g1;subst g1;have x2:=NU s i (i+2);rw[h1,show i+2 - i=2 by omega] at x2
  have a2:=tq AzE [c,d] (by decide)
  rw[sy2] at a2;by_cases hh:d=61∧(c=61∨c=33∨c=60∨c=62)
  ·rw[decide_eq_true hh] at a2;have:H6 (c::d::l')=2:=by rw[H6,if_pos ⟨by rw[hh.1];rfl,hh.2⟩]
   rw[this];exact AJA (by omega) (by omega) x2 a2
  ·rw[decide_eq_false hh] at a2;have e:H6 (c::d::l')=if GU.contains c then 1 else 0:=by rw[H6,if_neg (fun h=>hh ⟨Option.some.inj h.1,h.2⟩)]
   rw[e];cases hy:GU.contains c with
   |true=>rw[hy] at a1;exact AJ7 (by omega) (by omega) x2 a2 x1 a1
   |false=>rw[hy] at a1;exact AJ6 (by omega) (by omega) x2 a2 x1 a1
 ·have hl:l=[]:=by rw[←h3,AZ];omega
  subst hl;have e:H6 [c]=if GU.contains c then 1 else 0:=by rw[H6,if_neg (by simp)]
  rw[e];cases hy:GU.contains c with
  |true=>rw[hy] at a1;exact AJ9 (by omega) (by omega) x1 a1
  |false=>rw[hy] at a1;exact AJ8 (by omega) (by omega) x1 a1
theorem f94(s:List UInt8)(hs:s.length<1000000)(i:Nat){c:UInt8}{l:List UInt8}(h1:s.drop i=c::l)(h2:s[i]?=some c)(hi:i<s.length):E 175 [.str s,N i] [] (.bool (leB c||diB c||H6 (c::l) != 0)) []:=by
 have a1:=f90 c;have a2:=f91 c;cases hl:leB c with
 |true=>rw[hl] at a1;exact AJ5 h2 a1
 |false=>
  rw[hl] at a1;cases hd:diB c with
  |true=>rw[hd] at a2;exact AJ4 h2 a1 a2
  |false=>
   rw[hd] at a2;have a3:=f93 s hs i hi;rw[h1] at a3;have:=AJ3 h2 a1 a2 a3
   have e:decide (((H6 (c::l):Nat):Int) > 0)=(H6 (c::l) != 0):=by
    by_cases h:H6 (c::l)=0
    ·rw[h];rfl
    ·rw[decide_eq_true (by omega),bne_iff_ne.2 h]
   rw[e] at this;simpa using this
theorem f40(s:List UInt8)(hs:s.length<1000000)(i:Nat)(hi:i≤s.length):E 122 [.str s,N i] [] (N (i+skN false (s.drop i))) []:=by
 have com:∀(a:Nat) (n j:Nat),j≤s.length→s.length - j=n→
   LL OQ 1 [(0,some (.str s)),(1,some (N j)),(10,some (.str s)),(11,some (N a)),(12,some (.int .u8 (((35:UInt8).toNat:Nat):Int))),(13,some (.bool false)),(14,some (.bool false)),(15,some (.str s)),(16,some (N a)),(17,some (.int .u8 (((35:UInt8).toNat:Nat):Int))),(18,some (.bool true)),(19,some (.bool true))] [] (.exit 2)
    [(0,some (.str s)),(1,some (N (j+Dc (· != 10) (s.drop j)))),(10,some (.str s)),(11,some (N a)),(12,some (.int .u8 (((35:UInt8).toNat:Nat):Int))),(13,some (.bool false)),(14,some (.bool false)),(15,some (.str s)),(16,some (N a)),(17,some (.int .u8 (((35:UInt8).toNat:Nat):Int))),(18,some (.bool true)),(19,some (.bool true))] []:=by
  intro a n
  induction n with
  |zero=>
   intro j hj hn;have:s.drop j=[]:=by rw[AZ];omega
   rw[this];exact aL (by omega)
  |succ n ih=>
   intro j hj hn;obtain⟨c,l,h1,h2,h3⟩:=OC (s:=s) (i:=j) (by omega)
   rw[h1];by_cases hc:c=10
   ·have e:Dc (· != 10) (c::l)=0:=by subst hc;simp[Dc]
    rw[e];subst hc;exact aK (by omega) h2 rfl
   ·have e:Dc (· != 10) (c::l)=1+Dc (· != 10) l:=by simp[Dc,BV,hc];omega
    have:=ih (j+1) (by omega) (by omega)
    rw[h3] at this;rw[e,show j+(1+Dc (fun x=>x != 10) l)=j+1+Dc (fun x=>x != 10) l by omega]
    exact XB (by omega) h2 (fun h=>hc ((u8i c 10).1 h)) (by omega) this
 refine r40 ?_
 have key:∀(n i:Nat),i≤s.length→s.length - i≤n→LL OQ 0 [(0,some (.str s)),(1,some (N i))] [] (.exit 0) [(1,some (N (i+skN false (s.drop i))))] []:=by
  intro n
  induction n with
  |zero=>
   intro i hi hn;have:s.drop i=[]:=by rw[AZ];omega
   rw[this];exact QV (by omega)
  |succ n ih=>
   intro i hi hn;rcases Bc i s.length with hlt | hge
   ·obtain⟨c,l,h1,h2,h3⟩:=OC hlt;have hc:=f89 c;rw[h1];cases hw:whB c with
    |true=>
     rw[hw] at hc
     have n35:((c.toNat:Nat):Int)≠35:=fun h=>by
      have:=(u8i c 35).1 h;subst this;exact absurd hw (by decide)
     have e:i+skN false (c::l)=i+1+skN false (s.drop (i+1)):=by rw[h3,skN,if_pos hw];omega
     rw[e];exact XD (by omega) h2 hc n35 (by omega) (ih (i+1) (by omega) (by omega))
    |false=>
     rw[hw] at hc;by_cases h35:c=35
     ·subst h35;have h134:=com i _ i hi rfl;have hr:Dc (· != 10) (s.drop i)=1+Dc (· != 10) l:=by rw[h1];simp[Dc,BV];omega
      have hle:=KA (· != 10) l;have hll:l.length=s.length - (i+1):=by rw[←h3,AU]
      have e:i+skN false ((35:UInt8)::l)=i+Dc (· != 10) (s.drop i)+skN false (s.drop (i+Dc (· != 10) (s.drop i))):=by
       rw[hr,skN,if_neg (by rw[hw];simp),if_pos rfl,eQ,←h3,Co,h3]
       rw[show i+1+Dc (fun x=>x != 10) l=i+(1+Dc (fun x=>x != 10) l) by omega];omega
      rw[e];exact XC (by omega) h2 hc rfl h134 (ih (i+Dc (· != 10) (s.drop i)) (by omega) (by omega))
     ·have e:skN false (c::l)=0:=by rw[skN,if_neg (by rw[hw];simp),if_neg h35]
      rw[e];exact aM (by omega) h2 hc (fun h=>h35 ((u8i c 35).1 h))
   ·have:s.drop i=[]:=by rw[AZ];omega
    rw[this];exact QV (by omega)
 exact key _ i hi (Ag _)
theorem Bv4(s:List UInt8)(hs:s.length<1000000)(i0:Nat):∀(n i:Nat),i≤s.length→s.length - i=n→LL Jv 0 [(0,some (.str s)),(1,some (N i0)),(6,some (N i))] [] (.exit 1) [(0,some (.str s)),(1,some (N i0)),(6,some (N (i+Dc woB (s.drop i))))] []:=by
 intro n
 induction n with
 |zero=>
  intro i hi hn;have:s.drop i=[]:=by rw[AZ];omega
  rw[this];exact aJ (by omega)
 |succ n ih=>
  intro i hi hn;obtain⟨c,l,h1,h2,h3⟩:=OC (s:=s) (i:=i) (by omega)
  have a1:=f90 c;have a2:=f91 c;have ih:=ih (i+1) (by omega) (by omega)
  rw[h3] at ih;rw[h1];have go:woB c=true→i+Dc woB (c::l)=i+1+Dc woB l:=fun h=>by simp[Dc,BV,h];omega
  cases hl:leB c with
  |true=>
   rw[hl] at a1;rw[go (by simp[woB,hl])];exact XA (by omega) h2 a1 (by omega) ih
  |false=>
   rw[hl] at a1;cases hd:diB c with
   |true=>
    rw[hd] at a2;rw[go (by simp[woB,hd])];exact Xz (by omega) h2 a1 a2 (by omega) ih
   |false=>
    rw[hd] at a2;by_cases h95:c=95
    ·rw[go (by simp[woB,h95])];subst h95;exact Xy (by omega) h2 a1 a2 rfl (by omega) ih
    ·have e:Dc woB (c::l)=0:=by simp[Dc,BV,woB,hl,hd,h95]
     rw[e];exact aI (by omega) h2 a1 a2 (fun h=>h95 ((u8i c 95).1 h))
theorem Bv3(s:List UInt8)(hs:s.length<1000000)(i0:Nat):∀(n i:Nat),i≤s.length→s.length - i=n→LL Jv 1 [(0,some (.str s)),(1,some (N i0)),(6,some (N i))] [] (.exit 3) [(0,some (.str s)),(1,some (N i0)),(6,some (N (i+Dc diB (s.drop i))))] []:=by
 intro n
 induction n with
 |zero=>
  intro i hi hn;have:s.drop i=[]:=by rw[AZ];omega
  rw[this];exact aH (by omega)
 |succ n ih=>
  intro i hi hn;obtain⟨c,l,h1,h2,h3⟩:=OC (s:=s) (i:=i) (by omega)
  have a2:=f91 c;have ih:=ih (i+1) (by omega) (by omega)
  rw[h3] at ih;rw[h1];cases hd:diB c with
  |true=>
   rw[hd] at a2;have e:i+Dc diB (c::l)=i+1+Dc diB l:=by simp[Dc,BV,hd];omega
   rw[e];exact Xx (by omega) h2 a2 (by omega) ih
  |false=>
   rw[hd] at a2;have e:Dc diB (c::l)=0:=by simp[Dc,BV,hd]
   rw[e];exact aG (by omega) h2 a2
theorem Bv2(s:List UInt8)(hs:s.length<1000000)(i0:Nat):∀(n i:Nat),i≤s.length→s.length - i=n→LL Jv 2 [(0,some (.str s)),(1,some (N i0)),(6,some (N i))] [] (.exit 5) [(0,some (.str s)),(1,some (N i0)),(6,some (N (i+wrN (s.drop i))))] []:=by
 intro n
 induction n with
 |zero=>
  intro i hi hn;have:s.drop i=[]:=by rw[AZ];omega
  rw[this];exact aF (by omega)
 |succ n ih=>
  intro i hi hn;obtain⟨c,l,h1,h2,h3⟩:=OC (s:=s) (i:=i) (by omega)
  have a1:=f89 c;have a4:=f94 s hs i h1 h2 (by omega)
  have ih:=ih (i+1) (by omega) (by omega)
  rw[h3] at ih;rw[h1];have stop:Kv c l=true→wrN (c::l)=0:=fun h=>by rw[wrN,if_pos h]
  cases hw:whB c with
  |true=>rw[hw] at a1;rw[stop (by simp[Kv,hw])];exact aD (by omega) h2 a1
  |false=>
   rw[hw] at a1;by_cases h35:c=35
   ·rw[stop (by simp[Kv,h35])];subst h35;exact aC (by omega) h2 a1 rfl
   have n35:((c.toNat:Nat):Int)≠35:=fun h=>h35 ((u8i c 35).1 h)
   cases hb:(leB c||diB c||H6 (c::l) != 0) with
   |true=>
    rw[hb] at a4;rw[stop (by unfold Kv;rw[FD,FD,←FD (leB c),hb];simp)];exact aB (by omega) h2 a1 n35 a4
   |false=>
    rw[hb] at a4
    have e:wrN (c::l)=1+wrN l:=by
     rw[wrN,if_neg];unfold Kv;rw[FD,FD,←FD (leB c),hb,hw];simp[h35]
    rw[e,show i+(1+wrN l)=i+1+wrN l by omega]
    exact Xw (by omega) h2 a1 n35 a4 (by omega) ih
theorem f41(s:List UInt8)(hs:s.length<1000000)(i:Nat){c:UInt8}{l:List UInt8}(h1:s.drop i=c::l)(hw:whB c=false)(h35:c≠35):E 123 [.str s,N i] [] (.tuple [N (IP (s.drop i)).1,N (i+(IP (s.drop i)).2)]) []:=by
 have hi:i<s.length:=by
  rcases Bc i s.length with h | h
  ·exact h
  ·rw[Cf h] at h1;cases h1
 obtain⟨c',l',h1',h2,h3⟩:=OC hi;rw[h1] at h1';obtain⟨rfl,rfl⟩:=List.cons.inj h1';have a2:=f90 c;have a3:=f91 c;unfold IP;have hh:(s.drop i).headD 0=c:=by rw[h1];rfl
 have ht:(s.drop i).tail=l:=by rw[h1];rfl
 rw[hh,ht];cases hl:leB c with
 |true=>
  rw[hl] at a2;have a4:=Bv4 s hs i _ i (by omega) rfl
  have hle:=KA woB (s.drop i);rw[AU] at hle;have a5:=NU s i (i+Dc woB (s.drop i));rw[show i+Dc woB (s.drop i) - i=Dc woB (s.drop i) by omega] at a5
  have a6:=f92 ((s.drop i).take (Dc woB (s.drop i)));simp only[if_true];cases hk:kwL.contains ((s.drop i).take (Dc woB (s.drop i))) with
  |true=>rw[hk] at a6;exact AV8 h2 a2 a4 a5 a6
  |false=>rw[hk] at a6;exact AV7 h2 a2 a4 a5 a6
 |false=>
  rw[hl] at a2;simp only[Bool.false_eq_true,if_false];cases hd:diB c with
  |true=>
   rw[hd] at a3;simp only[if_true];exact AV6 h2 a2 a3 (Bv3 s hs i _ i (by omega) rfl)
  |false=>
   rw[hd] at a3;simp only[Bool.false_eq_true,if_false];have a4:=f93 s hs i hi;have:=Rw (s.drop i);rw[AU] at this;by_cases hy:0<H6 (s.drop i)
   ·rw[if_pos hy];exact AV5 h2 a2 a3 a4 (by omega) a4 (by omega) (by omega)
   ·rw[if_neg hy];have a5:=Bv2 s hs i _ i (by omega) rfl
    have e:wrN (s.drop i)=1+wrN l:=by
     rw[h1,wrN,if_neg];rw[h1] at hy;have:H6 (c::l)=0:=by omega
     simp[Kv,hw,h35,hl,hd,this]
    rw[e] at a5;exact AV4 h2 a2 a3 a4 (by omega) a5
theorem OV:∀(b:Bool) (l:List UInt8) {c:UInt8} {r:List UInt8},l.drop (skN b l)=c::r→whB c=false∧c≠35
 |b,[],c,r,h=>by cases b<;>simp[skN] at h
 |true,d::l,c,r,h=>by
  rw[skN] at h;by_cases h10:d=10
  ·rw[if_pos h10,Er,Ed] at h;exact OV false l h
  ·rw[if_neg h10,Er,Ed] at h;exact OV true l h
 |false,d::l,c,r,h=>by
  rw[skN] at h;by_cases hw:whB d=true
  ·rw[if_pos hw,Er,Ed] at h;exact OV false l h
  ·rw[if_neg hw] at h;by_cases h35:d=35
   ·rw[if_pos h35,Er,Ed] at h;exact OV true l h
   ·rw[if_neg h35,List.drop_zero] at h;cases h;exact⟨by simpa using hw,h35⟩
theorem AZV(s:List UInt8)(hs:s.length<1000000):∀(n f:Nat) (tl:List Tk),f≤s.length→s.length - f<n→tl.length+n≤2000000→
  LL a68 0 [(0,some (.str s)),(4,some (.slice true 4 (tl.map Tk.pv))),(5,some (N f))] [] .ret [(2,some (.slice true 4 ((tl++J2 n (s.drop f) f).map Tk.pv))),(3,some (I 0))] []
 |0,f,tl,_,h,_=>by omega
 |n+1,f,tl,hf,h,hn=>by
  have a1:=f40 s hs f hf;have hk:=Mq false (s.drop f);rw[AU] at hk;have hm:tl.length+1≤Bn:=by unfold Bn;omega
  rw[J2];by_cases he:(s.drop f).drop (skN false (s.drop f))=[]
  ·simp only[he,if_true];rw[Co,AZ] at he;exact aY (m2:=f+skN false (s.drop f)) a1 (by omega) hm
  ·have hcr:∃c r,(s.drop f).drop (skN false (s.drop f))=c::r:=by
    cases hx:(s.drop f).drop (skN false (s.drop f)) with
    |nil=>exact absurd hx he
    |cons c r=>exact⟨c,r,rfl⟩
   obtain⟨c,r,hcr⟩:=hcr;obtain⟨w1,w2⟩:=OV false _ hcr;simp only[he,if_false];rw[Co] at he hcr
   have hlt:f+skN false (s.drop f) < s.length:=by
    rcases Bc (f+skN false (s.drop f)) s.length with h' | h'
    ·exact h'
    ·exact absurd (AZ.2 (by omega)) he
   have a2:=f41 s hs (f+skN false (s.drop f)) hcr w1 w2;have ht:=iF he;rw[AU] at ht;have:=AZV s hs n (f+skN false (s.drop f)+(IP (s.drop (f+skN false (s.drop f)))).2) (tl++[⟨(IP (s.drop (f+skN false (s.drop f)))).1,f,f+skN false (s.drop f),f+skN false (s.drop f)+(IP (s.drop (f+skN false (s.drop f)))).2⟩]) (by omega) (by omega) (by simp;omega)
   rw[AP] at this;simp only[Co];exact XY a1 (by omega) a2 hm this
theorem f18(s:List UInt8)(hs:s.length≤4096):E 68 [.str s] [] (.tuple [.slice false 4 ((EQ s).map Tk.pv),I 0]) []:=
 AW5 (by omega) (AZV s (by omega) (s.length+1) 0 [] (by omega) (by omega) (by simp;omega))
theorem n64(w:List UInt8)(hw:w.length≤9):∀(n j:Nat) (z:Int),j+n=w.length→
  (∃z',w.length≤j+Dc diB (w.drop j)∧LL a86 0 [(0,some (.str w)),(4,some (I z)),(5,some (N j))] [] (.exit 0) [(0,some (.str w)),(4,some (I z'))] []) ∨
  (j+Dc diB (w.drop j) < w.length∧LL a86 0 [(0,some (.str w)),(4,some (I z)),(5,some (N j))] [] .ret [(2,some (I 0)),(3,some (.bool false))] [])
 |0,j,z,h=>.inl ⟨z,by omega,aj (by omega)⟩
 |n+1,j,z,h=>by
  obtain⟨c,l,h1,h2,h3⟩:=OC (s:=w) (i:=j) (by omega)
  have a2:=f91 c;rw[h1];cases hd:diB c with
  |true=>
   rw[hd] at a2;have e:j+Dc diB (c::l)=j+1+Dc diB l:=by simp[Dc,BV,hd];omega
   rw[e];rcases n64 w hw n (j+1) _ (by omega) with⟨z',h4,h5⟩ | ⟨h4,h5⟩
   ·rw[h3] at h4;exact .inl ⟨z',h4,O6 (by omega) h2 a2 rfl rfl rfl rfl (by omega) h5⟩
   ·rw[h3] at h4;exact .inr ⟨h4,O6 (by omega) h2 a2 rfl rfl rfl rfl (by omega) h5⟩
  |false=>
   rw[hd] at a2;have e:Dc diB (c::l)=0:=by simp[Dc,BV,hd]
   rw[e];exact .inr ⟨by omega,ai (by omega) h2 a2⟩
theorem f64(w:List UInt8):∃z,E 86 [.str w] [] (.tuple [I z,.bool (Mg w)]) []:=by
 by_cases h1:w.length<1
 ·have:Mg w=false:=by
   have:w=[]:=Aw.1 (by omega)
   subst this;rfl
  rw[this];exact⟨0,AKN (by omega)⟩
 ·by_cases h2:9<w.length
  ·have:Mg w=false:=by simp[Mg];omega
   rw[this];exact⟨0,AKM (by omega) (by omega)⟩
  ·have hne:w≠[]:=fun h=>h1 (by rw[h];simp)
   rcases n64 w (by omega) w.length 0 0 (by omega) with⟨z',h4,h5⟩ | ⟨h4,h5⟩
   ·rw[List.drop_zero,Bq] at h4;have:Mg w=true:=by simp[Mg];exact⟨hne,by omega,by omega⟩
    rw[this];exact⟨z',AKL (by omega) (by omega) h5⟩
   ·rw[List.drop_zero,Bq] at h4;have:Mg w=false:=by simp[Mg];omega
    rw[this];exact⟨0,AKK (by omega) (by omega) h5⟩
end Go.Abs.Z

namespace Go.Abs.Z
open Go.Proofs Go.RowKit
theorem Sd.Wo{a:Dg}{A B R:List Dg}(h:Sd (A++B) R)(ha:∀x∈A++B,a.a≤x.a):Sd ((a::A)++B) (a::R):=by
 refine⟨BR.2 ⟨fun x hx=>ha x (h.mem.1 hx),h.asc⟩,h.perm.cons a,fun k=>?_⟩
 have:=h.keep k;simp only[fk,BI,Dy] at this ⊢;rw[this]
theorem Sd.Ui{b:Dg}{A B R:List Dg}(h:Sd (A++B) R)(ha:∀x∈A,b.a<x.a)(hb:∀x∈B,b.a≤x.a):Sd (A++b::B) (b::R):=by
 have e:A++b::B=(A++[b])++B:=by simp
 refine⟨BR.2 ⟨fun x hx=>?_,h.asc⟩,(h.perm.cons b).trans ?_,fun k=>?_⟩
 ·rcases Cm.1 (h.mem.1 hx) with hx | hx
  ·exact Dz (ha x hx)
  ·exact hb x hx
 ·exact List.perm_middle.symm
 ·have h1:=h.keep k
  have h2:=jP (k:=k) (u:=A) (v:=[b]) fun x hx y hy=>by
   rw[CK] at hy;subst hy;have:=ha x hx;omega
  rw[e,Gd,h2,←Gd];simp only[fk,BI,Bj,Dy] at h1 ⊢;rw[h1]
theorem PT{a:Dg}{A:List Dg}:Asc (a::A)↔(∀x∈A,a.a≤x.a)∧Asc A:=BR
theorem Pn:∀(n:Nat) (A B acc:List Dg),A.length+B.length=n→acc.length+n<1000000→Asc A→Asc B→
  ∃R,LL a39 0 [(0,some (.slice false 5 (A.map Dg.pv))),(1,some (.slice false 5 (B.map Dg.pv))),(5,some (.slice true 5 (acc.map Dg.pv)))] [] (.exit 0) [(5,some (.slice true 5 ((acc++R).map Dg.pv)))] []∧Sd (A++B) R
 |n,[],[],acc,h,hl,hA,hB=>⟨[],by rw[Az];exact aU (by simp) (by simp),Sd.refl List.Pairwise.nil⟩
 |0,a::A,B,acc,h,hl,hA,hB=>by simp at h
 |0,[],b::B,acc,h,hl,hA,hB=>by simp at h
 |n+1,a::A,[],acc,h,hl,hA,hB=>by
  simp only[Al,Bo] at h;obtain⟨a1,a2⟩:=PT.1 hA;obtain⟨R,hL,hS⟩:=Pn n A [] (acc++[a]) (by simp<;>omega) (by simp<;>omega) a2 hB
  rw[AP] at hL;exact⟨a::R,XQ (by simp<;>omega) (by simp) rfl (by unfold Bn;omega) (by simp) hL,hS.Wo (by simpa using a1)⟩
 |n+1,[],b::B,acc,h,hl,hA,hB=>by
  simp only[Al,Bo] at h;obtain⟨a1,a2⟩:=PT.1 hB;obtain⟨R,hL,hS⟩:=Pn n [] B (acc++[b]) (by simp<;>omega) (by simp<;>omega) hA a2
  rw[AP] at hL;exact⟨b::R,XN (by simp) (by simp<;>omega) (by simp<;>omega) rfl (by unfold Bn;omega) (by simp) hL,hS.Ui (fun x hx=>by cases hx) a1⟩
 |n+1,a::A,b::B,acc,h,hl,hA,hB=>by
  simp only[Al] at h;obtain⟨a1,a2⟩:=PT.1 hA;obtain⟨b1,b2⟩:=PT.1 hB;by_cases hc:a.a≤b.a
  ·obtain⟨R,hL,hS⟩:=Pn n A (b::B) (acc++[a]) (by simp<;>omega) (by simp<;>omega) a2 hB
   rw[AP] at hL;refine⟨a::R,XP (by simp<;>omega) (by simp<;>omega) rfl rfl (by omega) rfl (by unfold Bn;omega) (by simp) hL,hS.Wo fun x hx=>?_⟩
   rcases Cm.1 hx with hx | hx
   ·exact a1 x hx
   ·rcases AY.1 hx with rfl | hx
    ·exact hc
    ·exact Bf hc (b1 x hx)
  ·obtain⟨R,hL,hS⟩:=Pn n (a::A) B (acc++[b]) (by simp<;>omega) (by simp<;>omega) hA b2
   rw[AP] at hL;refine⟨b::R,XO (by simp<;>omega) (by simp<;>omega) rfl rfl (by omega) rfl (by unfold Bn;omega) (by simp) hL,hS.Ui (fun x hx=>?_) b1⟩
   rcases AY.1 hx with rfl | hx
   ·omega
   ·have:=a1 x hx;omega
theorem qV:∀(A acc:List Dg),acc.length+A.length<1000000→
  LL a39 0 [(0,some (.slice false 5 (A.map Dg.pv))),(1,some .nils),(5,some (.slice true 5 (acc.map Dg.pv)))] [] (.exit 0) [(5,some (.slice true 5 ((acc++A).map Dg.pv)))] []
 |[],acc,hl=>by rw[Az];exact XM (by simp)
 |a::A,acc,hl=>by
  simp only[Al] at hl;have hL:=qV A (acc++[a]) (by simp<;>omega)
  rw[AP] at hL;exact UU (by simp<;>omega) rfl (by unfold Bn;omega) (by simp) hL
theorem f32{A B:List Dg}(hA:Asc A)(hB:Asc B)(hl:A.length+B.length<1000000):∃R,E 39 [.slice false 5 (A.map Dg.pv),BG 5 (B.map Dg.pv)] [] (.slice false 5 (R.map Dg.pv)) []∧Sd (A++B) R:=by
 cases B with
 |nil=>exact⟨A,BjC (qV A [] (by simpa using hl)),by rw[Az];exact Sd.refl hA⟩
 |cons b B=>
  obtain⟨R,hL,hS⟩:=Pn _ A (b::B) [] rfl (by simpa using hl) hA hB
  exact⟨R,r32 hL,hS⟩
theorem jr(s:List UInt8)(hs:s.length≤4096)(all:List Tk)(ha:all.length≤5000):∀(rest done:List Tk),all=done++rest→(∀t∈rest,t.a≤t.e∧t.e≤s.length)→
  LL a40 0 [(0,some (.str s)),(3,some (.slice true 5 ((H8 s done).map Dg.pv))),(4,some (.slice false 4 (all.map Tk.pv))),(6,some (N done.length))] [] (.exit 0) [(0,some (.str s)),(3,some (.slice true 5 ((H8 s all).map Dg.pv)))] []
 |[],done,e,_=>by
  rw[Az] at e;subst e;exact aT (by omega)
 |t::rest,done,e,hr=>by
  have hlen:all.length=done.length+(rest.length+1):=by rw[e];simp
  have ih:=jr s hs all ha rest (done++[t]) (by rw[e];simp) (fun u hu=>hr u (by simp[hu]))
  have g1:all[done.length]?=some t:=by rw[e];simp
  obtain⟨h1,h2⟩:=hr t (by simp)
  have x1:E 87 [.str s,t.pv] [] (.str (wd s t)) []:=r65 (NU s t.a t.e h1 h2);have hw:(wd s t).length=t.e - t.a:=by simp only[wd,Ba,AU];omega
  rw[Af,DV] at ih;have hl:(H8 s done).length≤done.length:=MM s done
  have eL:H8 s (done++[t])=if IL s t=0 then H8 s done else H8 s done++[⟨IL s t,t.a,t.e,[]⟩]:=by
   rw[Pq];simp only[H8];split<;>simp
  have hm:(H8 s done).length+1≤Bn:=by unfold Bn;omega
  obtain⟨z,hz⟩:=f64 (wd s t);rw[eL] at ih;by_cases c4:t.k=4
  ·have hc:IL s t=1:=by simp[IL,c4]
   rw[hc,if_neg (by decide)] at ih
   exact XL (by omega) g1 x1 hz g1 (by omega) g1 g1 hm (by omega) ih
  ·by_cases c2:t.k=2
   ·cases hn:Mg (wd s t) with
    |true=>
     have hc:IL s t=0:=by simp[IL,c2,hn]
     rw[hc,if_pos rfl] at ih;rw[hn] at hz;exact XI (by omega) g1 x1 hz g1 (by omega) g1 (by omega) g1 (by omega) (by omega) ih
    |false=>
     have hc:IL s t=2:=by simp[IL,c2,hn]
     rw[hc,if_neg (by decide)] at ih
     rw[hn] at hz;exact XK (by omega) g1 x1 hz g1 (by omega) g1 (by omega) g1 g1 hm (by omega) ih
   ·by_cases c0:t.k=0
    ·by_cases cl:16<(wd s t).length
     ·have hc:IL s t=3:=by simp[IL,c0,cl]
      rw[hc,if_neg (by decide)] at ih
      exact XH (by omega) g1 x1 hz g1 (by omega) g1 (by omega) g1 (by omega) g1 g1 h1 (by omega) (by omega) g1 g1 hm (by omega) ih
     ·have hc:IL s t=0:=by simp[IL,c0,cl]
      rw[hc,if_pos rfl] at ih;exact XG (by omega) g1 x1 hz g1 (by omega) g1 (by omega) g1 (by omega) g1 g1 h1 (by omega) (by omega) (by omega) ih
    ·have hc:IL s t=0:=by simp[IL,c0,c2,c4]
     rw[hc,if_pos rfl] at ih;exact XJ (by omega) g1 x1 hz g1 (by omega) g1 (by omega) g1 (by omega) (by omega) ih
theorem f33(s:List UInt8)(hs:s.length≤4096):E 40 [.str s] [] (.slice false 5 ((FX s).map Dg.pv)) []:=by
 have hl:(EQ s).length≤s.length+1:=IA (s.length+1) s 0;have hw:=(JZ s (s.length+1) 0 (by omega) (by omega)).wf
 exact r33 (f18 s hs) (jr s hs (EQ s) (by omega) (EQ s) [] rfl (fun t ht=>⟨(hw t ht).1.ord.1,(hw t ht).1.ord.2.1⟩))
theorem AZR(s:List UInt8)(all:List Tk)(ha:all.length≤5000):∀(rest done:List Tk),all=done++rest→
  LL a31 0 [(3,some rf),(4,some (.slice false 4 (all.map Tk.pv))),(6,some (N done.length))] [y0 s (Bw 4 ((good done).map Tk.pv))] (.exit 0) [(3,some rf)] [y0 s (Bw 4 ((good all).map Tk.pv))]
 |[],done,e=>by
  rw[Az] at e;subst e;exact aW (by omega)
 |t::rest,done,e=>by
  have hlen:all.length=done.length+(rest.length+1):=by rw[e];simp
  have ih:=AZR s all ha rest (done++[t]) (by rw[e];simp)
  have g1:all[done.length]?=some t:=by rw[e];simp
  rw[Af,DV] at ih
  have eG:good (done++[t])=if t.k=4 then good done else good done++[t]:=by
   unfold good;rw[CL];by_cases h:t.k=4
   ·simp[h]
   ·simp[h]
  have gl:(good done).length≤done.length:=Dv _ _;rw[eG] at ih;by_cases c4:t.k=4
  ·rw[if_pos c4] at ih;exact XT (by omega) g1 (by omega) (by omega) ih
  ·rw[if_neg c4,Ca,List.map_singleton] at ih;exact XU (by omega) g1 (by omega) g1 (by rw[Aq];unfold Bn;omega) (by omega) ih
theorem f24(s:List UInt8)(hs:s.length≤4096):E 31 [.str s] [] rf (RS4 s (Ch s) 0 []):=by
 have hl:(EQ s).length≤s.length+1:=IA (s.length+1) s 0;have h:=AZR s (EQ s) (by omega) (EQ s) [] rfl
 have hT:=(JI s).len
 have e:[y0 s (Bw 4 ((Ch s).map Tk.pv))]=RS4 s (Ch s) 0 []:=by
  cases hg:Ch s with
  |nil=>rw[hg] at hT;cases hT
  |cons t ts=>rfl
 rw[←e];exact r24 (f18 s hs) h
theorem yI(s:List UInt8)(hs:s.length≤4096):Asc (FX s):=by
 have ho:=(JZ s (s.length+1) 0 (by omega) (by omega)).ord
 have:∀l:List Tk,(l.Pairwise fun t u=>t.a<u.a∧t.e≤u.a)→Asc (H8 s l)∧∀d∈H8 s l,∃t∈l,t.a=d.a:=by
  intro l
  induction l with
  |nil=>exact fun _=>⟨List.Pairwise.nil,fun d h=>by cases h⟩
  |cons t l ih=>
   intro h;obtain⟨h1,h2⟩:=BR.1 h;obtain⟨i1,i2⟩:=ih h2;rw[H8];split
   ·exact⟨i1,fun d hd=>by obtain⟨u,hu,e⟩:=i2 d hd;exact⟨u,by simp[hu],e⟩⟩
   ·refine⟨BR.2 ⟨fun d hd=>?_,i1⟩,fun d hd=>?_⟩
    ·obtain⟨u,hu,e⟩:=i2 d hd;have:=(h1 u hu).1;show t.a≤d.a;omega
    ·rcases AY.1 hd with rfl | hd
     ·exact⟨t,by simp,rfl⟩
     ·obtain⟨u,hu,e⟩:=i2 d hd;exact⟨u,by simp[hu],e⟩
 exact(this _ ho).1
def prR(s:List UInt8)(ls:List Tk)(acc:List AT):Tr:=.mk 2 [] 0 (s.length:Nat) false (Fw ls acc)
section
variable{s:List UInt8}
theorem f9(hs:s.length≤4096){n:Nat}(hn:n≤IM){v:Rs}{k:Nat}{D:List AD}(h:runN (wAt s (Ch s)) n (.pg []) 0 []=some (v,k,D))(h5:(wAt s (Ch s) k).1=5):
  ∃R σ,Sd (FX s++dgs (Ch s) (MV (wAt s (Ch s)) k D)) R∧E 14 [.str s] [] (.tuple [(prR s (Ch s) v.2).pv,.slice false 5 (R.map Dg.pv),I 0]) σ:=by
 have H:=JI s;obtain⟨ok,ev⟩:=okR H n hn;have hD0:Dok 0 []:=⟨List.Pairwise.nil,fun d h=>by cases h⟩
 have hL:=ev _ _ _ _ _ _ h (CR _) hD0 (by simp;omega)
 obtain⟨o1,o2,o3⟩:=ok _ _ _ _ h (CR _) hD0;have o2:k≤(Ch s).length - 1:=o2;have o3:Dok k D:=o3;obtain⟨l1,l2⟩:=VI hs;have l3:=yz (w:=wAt s (Ch s)) o3;obtain⟨R,hE,hS⟩:=f32 (yI s hs) (yJ H (w:=wAt s (Ch s)) o3 o2) (by simp only[dgs,Aq];omega)
 have e:MV (wAt s (Ch s)) k D=D:=by unfold MV;rw[if_pos h5]
 rw[tF,e] at hE;refine⟨R,RS4 s (Ch s) k D,hS,?_⟩
 exact BjA (by omega) (f24 s hs) hL (f33 s hs) ldQ hE
end
end Go.Abs.Z

namespace Go.Abs.Z
open Go.Proofs Go.RowKit
set_option linter.unusedVariables false
section
variable{ls:List Tk}
theorem y5:∀x:AT,(trR ls x).st=(trP ls x).st
 |.mk kd tx f k b ks=>by
  rw[trR,trP];show(match Fw ls ks with | []=>if f<k then((tA ls f:Nat):Int) else(en ls k:Nat) | u::_=>min (if f<k then((tA ls f:Nat):Int) else(en ls k:Nat)) u.st)=(match EP ls ks with | []=>if f<k then((tA ls f:Nat):Int) else(en ls k:Nat) | u::_=>min (if f<k then((tA ls f:Nat):Int) else(en ls k:Nat)) u.st)
  cases ks with
  |nil=>rfl
  |cons x xs=>
   show min _ (trR ls x).st=min _ (trP ls x).st;rw[y5 x]
mutual
theorem yF:∀x:AT,(trP ls x).bare=(trR ls x).bare
 |.mk kd tx f k b ks=>by
  have h:=Uv ks;have hst:=y5 (ls:=ls) (.mk kd tx f k b ks);rw[trR,trP] at hst ⊢;rw[Tr.bare,Tr.bare,h];exact congrArg (fun z=>Tr.mk _ _ z _ false _) hst.symm
theorem Uv:∀xs:List AT,Gu (EP ls xs)=Gu (Fw ls xs)
 |[]=>rfl
 |x::xs=>by rw[EP,Fw,Gu,Gu,yF x,Uv xs]
end
mutual
theorem Az7:∀x:AT,(trR ls x).wf
 |.mk kd tx f k b ks=>⟨fun h=>by
   have:=DX.1 (Bool.and_eq_true_iff.1 h).1;subst this;rfl,WC ks⟩
theorem WC:∀xs:List AT,Tr.wfs (Fw ls xs)
 |[]=>trivial
 |x::xs=>⟨Az7 x,WC xs⟩
end
end
mutual

def Tr.WN:Tr→Prop
 |.mk _ _ _ _ _ ks=>ks.length<1000000000∧QN ks
def QN:List Tr→Prop
 |[]=>True
 |x::xs=>x.WN∧QN xs
end
mutual
theorem Qf:∀x:Tr,x.bare.WN↔x.WN
 |.mk k t a e n ks=>by
  have h:=Sq ks;have hl:(Gu ks).length=ks.length:=by rw[Nz,Aq]
  simp only[Tr.bare,Tr.WN,h,hl]
theorem Sq:∀xs:List Tr,QN (Gu xs)↔QN xs
 |[]=>Iff.rfl
 |x::xs=>by simp only[Gu,QN,Qf x,Sq xs]
end
mutual
theorem uM{ls:List Tk}:∀x:AT,x.ok→(trP ls x).WN
 |.mk kd tx f k b ks,h=>⟨by show(EP ls ks).length<_;rw[Mj];exact h.2.1,RY ks f k h.2.2⟩
theorem RY{ls:List Tk}:∀(xs:List AT) (lo hi:Nat),oks lo hi xs→QN (EP ls xs)
 |[],_,_,_=>trivial
 |x::xs,lo,hi,h=>⟨uM x h.2.1,RY xs _ _ h.2.2⟩
end
mutual
theorem Bx0:∀A B:Tr,A.wf→A.WN→B.wf→E 60 [A.pv,B.pv] [] (.bool (A.eqv B)) []
 |.mk k t a e n ks,B,wA,sA,wB=>AQ3 wA wB (by show ks.length<_;have:=sA.1;omega) fun i U V hU hV=>AxN ks wA.2 sA.2 U (Au hU) V (Tz wB hV)
theorem AxN:∀xs:List Tr,Tr.wfs xs→QN xs→∀U∈xs,∀V:Tr,V.wf→E 60 [U.pv,V.pv] [] (.bool (U.eqv V)) []
 |[],_,_,U,h=>by cases h
 |x::xs,w,hs,U,h=>fun V wV=>by
  rcases AY.1 h with e | h
  ·rw[e];exact Bx0 x V w.1 hs.1 wV
  ·exact AxN xs w.2 hs.2 U h V wV
end
mutual
theorem Bx1:∀A B:Tr,A.wf→A.WN→B.wf→E 67 [A.pv,B.pv] [] (.bool (A.eqv B)) []
 |.mk k t a e n ks,B,wA,sA,wB=>AQ4 wA wB (by show ks.length<_;have:=sA.1;omega) fun i U V hU hV=>AxO ks wA.2 sA.2 U (Au hU) V (Tz wB hV)
theorem AxO:∀xs:List Tr,Tr.wfs xs→QN xs→∀U∈xs,∀V:Tr,V.wf→E 67 [U.pv,V.pv] [] (.bool (U.eqv V)) []
 |[],_,_,U,h=>by cases h
 |x::xs,w,hs,U,h=>fun V wV=>by
  rcases AY.1 h with e | h
  ·rw[e];exact Bx1 x V w.1 hs.1 wV
  ·exact AxO xs w.2 hs.2 U h V wV
end
mutual
theorem qP:∀T:Tr,T.wf→∀U∈T.nds,U.wf∧U.nds.length≤T.nds.length
 |.mk k t a e n ks,w,U,h=>by
  rw[Tr.nds] at h;rcases AY.1 h with rfl | h
  ·exact⟨w,Ag _⟩
  ·obtain⟨h1,h2⟩:=jo ks w.2 U h;exact⟨h1,by rw[Tr.nds,Al];omega⟩
theorem jo:∀xs:List Tr,Tr.wfs xs→∀U∈Fa xs,U.wf∧U.nds.length≤(Fa xs).length
 |[],_,U,h=>by cases h
 |x::xs,w,U,h=>by
  rw[Fa] at h;rcases Cm.1 h with h | h
  ·obtain⟨h1,h2⟩:=qP x w.1 U h;exact⟨h1,by rw[Fa,Af];omega⟩
  ·obtain⟨h1,h2⟩:=jo xs w.2 U h;exact⟨h1,by rw[Fa,Af];omega⟩
end
theorem bG:∀{xs:List Tr},NI xs→∀k∈xs,k.no2
 |x::xs,h,k,hk=>(AY.1 hk).elim (fun e=>e▸h.1) (bG h.2 k)
theorem bH{x:Tr}(h:x.no2):x.kind≠2∧NI x.kids:=by cases x;exact h
mutual
theorem xP:∀x:Tr,x.no2→∀U∈x.nds,U.no2
 |.mk k t a e n ks,h,U,hU=>by
  rw[Tr.nds] at hU;rcases AY.1 hU with rfl | hU
  ·exact h
  ·exact Tj ks h.2 U hU
theorem Tj:∀xs:List Tr,NI xs→∀U∈Fa xs,U.no2
 |[],_,U,hU=>by cases hU
 |x::xs,h,U,hU=>by
  rw[Fa] at hU;rcases Cm.1 hU with hU | hU
  ·exact xP x h.1 U hU
  ·exact Tj xs h.2 U hU
end
theorem Aw9{U:Tr}(h:NI U.kids)(t:Tk):bB U t=Pe U t:=by
 have hin:∀k:Tr,t.k≠5→inR k t=inT k t:=fun k h5=>by
  unfold inR inT;rw[if_neg h5,show(t.k != 5)=true by simp[h5],Cy]
 unfold bB Pe VW;by_cases h5:t.k=5
 ·have h1:∀k:Tr,inT k t=false:=fun k=>by simp[inT,h5]
  have h2:(U.kids.any fun k=>inR k t)=false:=List.any_eq_false.2 fun k hk=>by
   have:=(bH (bG h k hk)).1;simp[inR,h5,this]
  have h3:(U.kids.any fun k=>inT k t)=false:=List.any_eq_false.2 fun k _=>by simp[h1 k]
  rw[h1,h2,h3];simp[inR,h5]
 ·have:(U.kids.any fun k=>inR k t)=U.kids.any fun k=>inT k t:=by
   congr 1;funext k;exact hin k h5
  rw[this,hin U h5,show(t.k==5)=false by simp[h5],DJ,CJ]
set_option maxRecDepth 100000 in
theorem Zt(s:Str){x:Tr}(wx:x.wf)(hx:x.nds.length≤2000000)(z at_:Int):iA a3 [.str s,x.pv,I z,I at_] [] (.bool true) []:=by
 by_cases hs:s.length≤400
 ·obtain⟨b4,h4,hb4⟩:=e4 wx (by omega)
  cases b4 with
  |false=>exact v3b (by omega) (evA h4)
  |true=>
   have hn:=hb4 rfl;have H:=JI s;obtain⟨v,k,D,h⟩:=runs s (by omega) (.pg []) trivial (by simp)
   obtain⟨o2,o3,o4⟩:=wC s (by omega) h
   have hpe:=pW (w5 (JI s)) 100000 [] 0 [] v k D (by omega) h (CR _) ⟨List.Pairwise.nil,fun d h=>by cases h⟩
   obtain⟨b1,b2⟩:=o4 (by simp)
   have bk:=b2 0 (Ag _);obtain⟨R1,S1,E1⟩:=e8 (s:=s) (by omega) (n:=100000) (by decide) h
   obtain⟨R2,σ2,S2,E2⟩:=f9 (s:=s) (by omega) (n:=100000) (by decide) h hpe
   have hw:(prT s (Ch s) v.2).wf:=⟨fun h=>N7 _ h,WE _⟩
   have hw':(prR s (Ch s) v.2).wf:=⟨fun h=>(by cases h),WC _⟩
   have hsl:(prT s (Ch s) v.2).WN:=⟨by show(EP _ _).length<_;rw[Mj];exact b1,RY _ _ _ bk⟩
   have hbare:(prT s (Ch s) v.2).bare=(prR s (Ch s) v.2).bare:=by
    unfold prT prR;rw[Tr.bare,Tr.bare,Uv]
   have hsl':(prR s (Ch s) v.2).WN:=(Qf _).1 (hbare▸(Qf _).2 hsl);have h59:=e97 s (by omega)
   have h68:=f18 s (by omega)
   have hsc:(EQ s).length≤s.length+1:=IA (s.length+1) s 0;have h60:=Bx0 _ x hw hsl wx;have h67:=Bx1 _ x hw' hsl' wx;rw[←sW (B:=x) hbare] at h67;have h20:=BzQ (x:=x) rfl E1 h59 h60;have h25:=Bj2 (x:=x) E2 h67;obtain⟨r,h11,h12⟩:=sD (s:=s) (by omega) at_
   cases hq:(prT s (Ch s) v.2).eqv x with
   |false=>
    rw[hq] at h20 h25;exact v3c (A:=.nils) (C:=.nils) (by omega) (evA h4) ⟨rfl,rfl,rfl,rfl⟩ ⟨rfl,rfl,rfl,rfl⟩ (evA (BzO h20)) (evA (BzW h25)) (evA (BzL h20)) (evA (BzS h25)) (evA mV) (evA h11) (evA h12)
   |true=>
    rw[hq] at h20 h25;have hbx:=(RN _ _).1 hq;have hch:Chn s.length 0 (EQ s):=ZK s (s.length+1) 0 (by omega) (by omega)
    have hsr:=hch.srt;have hbd:=hch.bd;have hin:OB 0 (s.length:Nat) (EP (Ch s) v.2):=AvY H bk o2;have hcut:Me (EQ s) (EP (Ch s) v.2):=Qe hsr (fun t ht=>(hbd t ht).2.1) (fun t ht=>(Ck.1 ht).1) v.2
    have hno:NI (EP (Ch s) v.2):=R3 _ _ (AWT _ _ _ _ _ _ _ h trivial).2;obtain⟨kd,tx,st,en,nb,ks⟩:=x;unfold prT at hbx;rw[Tr.bare,Tr.bare] at hbx;injection hbx with q1 q2 q3 q4 q5 q6
    subst q1 q3 q4;have hin':OB 0 (s.length:Nat) ks:=(Np ks _ _).1 (q6▸(Np _ _ _).2 hin);have hcut':Me (EQ s) ks:=(LP _ ks).1 (q6▸(LP _ _).2 hcut);have hno':NI ks:=(Nk ks).1 (q6▸(Nk _).2 hno);have hprt:(Tr.mk 2 tx 0 (s.length:Nat) nb ks).prt s (EQ s)=s:=pJ hch hin' hcut' hno';have h0:∀t∈EQ s,t.a≤t.e∧(t.k≠5→t.a<t.e):=fun t ht=>⟨(hbd t ht).2.1,(hbd t ht).2.2.2.1⟩
    have htx:(EQ s).flatMap (pcT s)=s:=hch.text rfl;have hpb:(Tr.mk 2 tx 0 (s.length:Nat) nb ks).pb s (EQ s):=⟨by rw[hprt];omega,fG hsr h0 (by rw[htx];omega) _ hin' hcut' hno' (Int.le_refl _)⟩
    obtain⟨σ8,h26⟩:=jU (T:=Tr.mk 2 tx 0 (s.length:Nat) nb ks) (b:=decide (((R1.map Dg.pv).length:Int) > 0)) (s:=s) (ts:=EQ s) (by omega) (fun t ht=>by
     have:=((JZ s (s.length+1) 0 (by omega) (by omega)).wf t ht).1.ord
     omega) (by omega) (Tr.mk 2 tx 0 (s.length:Nat) nb ks) wx hpb (by omega)
    have h8:=y9_ h20 h26;rw[hprt] at h8;have h9:=BzR h25;have h13:=e13 _ wx (by omega)
    have h61:=e7n wx (by omega)
    by_cases hz:z<0
    ·exact v3c (A:=.nils) (C:=.nils) (by omega) (evA h4) ⟨rfl,rfl,rfl,rfl⟩ ⟨rfl,rfl,rfl,rfl⟩ (evA (AX8 h20 (AXF hz))) (evA (BzV h25 h13 hz)) (evA h8) (evA h9) (evA mV) (evA h11) (evA h12)
    ·by_cases hz2:z≥(((Tr.mk 2 tx 0 (s.length:Nat) nb ks).nds.length:Nat):Int)
     ·exact v3c (A:=.nils) (C:=.nils) (by omega) (evA h4) ⟨rfl,rfl,rfl,rfl⟩ ⟨rfl,rfl,rfl,rfl⟩ (evA (AX8 h20 (AXE hz hz2 h61))) (evA (BzU h25 h13 hz hz2)) (evA h8) (evA h9) (evA mV) (evA h11) (evA h12)
     ·obtain⟨n,rfl⟩:∃n:Nat,z=(n:Nat):=⟨z.toNat,by omega⟩
      have hnl:n<(Tr.mk 2 tx 0 (s.length:Nat) nb ks).nds.length:=by omega
      obtain⟨p,U,g1,g2,g3,g4⟩:=Bv7 wx (by omega) hnl
      obtain⟨wU,lU⟩:=qP _ wx U (Au g2);have kU:=Pk U;have kU2:=Px U.kids
      have hnU:NI U.kids:=by
       have hm:=Au g2;rw[Tr.nds] at hm;rcases AY.1 hm with rfl | hm
       ·exact hno'
       ·exact(bH (Tj ks hno' U hm)).2
      have hnm:(PV.func 63 [] [.vptr (srV s (Tr.mk 2 tx 0 (s.length:Nat) nb ks) (EQ s) (decide (((R1.map Dg.pv).length:Int) > 0))),.vptr U.pv]).CE=true:=by simp[PV.CE,PV.CP,Sj,Tr.Gt]
      obtain⟨σ,h24⟩:=e24 hnm rfl (bV wU (by omega) (by omega)) (by
       have:=Dv (Pe U) (EQ s);unfold Bn;omega)
      have h6:=y8_ h20 g4 (Bv6 wx g3 g1) h24 ⟨NC ..,ND ..,OH ..,KM ..⟩;have hfe:(EQ s).filter (bB U)=(EQ s).filter (Pe U):=Ey fun t _=>Aw9 hnU t
      have h7:=BzT h25 h13 g2 hnl (Bv5 wU (by omega) (by omega) h68)
      rw[hfe] at h7;have hfl:=Dv (Pe U) (EQ s);exact v3c (by omega) (evA h4) ⟨NC ..,ND ..,OH ..,KM ..⟩ ⟨rfl,rfl,rfl,rfl⟩ (evA h6) (evA h7) (evA h8) (evA h9) (evA (BvD (by omega))) (evA h11) (evA h12)
 ·exact v3a (by omega)
end Go.Abs.Z
