/- A part of the proof: D6 D7 D11 D12 D13 D14. -/
import Derived.Test.YtapgnmhobbgmiaaGreatDoorKbb
import Derived.Test.YtapgnmhobbgmiaaGreatDoorKba
import Derived.Test.YtapgnmhobbgmiaaGreatDoorKay

set_option linter.unusedVariables false
set_option linter.unusedSimpArgs false
namespace Go.Abs.Z
open Go.Proofs Go.RowKit
section
variable{s:List UInt8}{ls:List Tk}{m n:Nat}{B:Sto}{k f:Nat}{D:List AD}{c:NT→Nat→List AD→K4}{r:Rs×Nat×List AD}{p q:Pg}
theorem AZI{x y z:List UInt8}(h1:[x].contains z=false)(h2:[y].contains z=false):[x,y].contains z=false:=by
 simp only[BH,Cn,CJ] at h1 h2 ⊢;simp[h1,h2]
theorem AZK{x y z:List UInt8}(h1:[x].contains z=true):[x,y].contains z=true:=by
 simp only[BH,Cn,CJ] at h1 ⊢;simp[h1]
theorem AZJ{x y z:List UInt8}(h1:[y].contains z=true):[x,y].contains z=true:=by
 simp only[BH,Cn,CJ] at h1 ⊢;simp[h1]
theorem qsv(H:CG s ls m)(hc:OkE s ls m B n c)(hb:[Og].contains (wAt s ls k).2=true)(h:G4 s ls m c r svP k D):E 271 [rf] (PS4 s ls B k D) (trP ls r.1.1).pv (PS4 s ls B r.2.1 r.2.2):=by
 have h:=(h.mrk.read (w5 H)).2;have a1:=exT (B:=B) (D:=D) (k:=k) H (by have:=h.le;omega) Og hb
 obtain⟨x,k1,D1,l1,a2,h⟩:=qnm (B:=B) H h;obtain⟨t,k2,D2,l2,a3,h⟩:=qwr (B:=B) H h;obtain⟨k3,D3,l3,a4,h⟩:=qxp (B:=B) H [61] h;obtain⟨v,k4,D4,l4,a5,h⟩:=qe1 H hc h;obtain⟨k5,D5,l5,a6,h⟩:=qxp (B:=B) H [59] h;obtain⟨y,e,a7⟩:=GA (B:=B) H (f:=k) (by omega) (by simp) h
 rw[e];exact r73 p75 a1 a2 a3 a4 a5 a6 a7
theorem BjW(H:CG s ls m)(hc:OkE s ls m B n c)(hb:[RU].contains (wAt s ls k).2=true)(h:G4 s ls m c r AwV k D):E 274 [rf] (PS4 s ls B k D) (trP ls r.1.1).pv (PS4 s ls B r.2.1 r.2.2):=by
 have h:=(h.mrk.read (w5 H)).2;have a1:=exT (B:=B) (D:=D) (k:=k) H (by have:=h.le;omega) RU hb
 obtain⟨x,k1,D1,l1,a2,h⟩:=qnm (B:=B) H h;obtain⟨k2,D2,l2,a3,h⟩:=qxp (B:=B) H [61] h;obtain⟨u,k3,D3,l3,a4,h⟩:=qe1 H hc h;obtain⟨k4,D4,l4,a5,h⟩:=qxp (B:=B) H wTo h;obtain⟨v,k5,D5,l5,a6,h⟩:=qe1 H hc h;obtain⟨b,k6,D6,l6,a7,h⟩:=qbk H hc h;obtain⟨y,e,a8⟩:=GA (B:=B) H (f:=k) (by omega) (by simp) h
 rw[e];exact r79 p75 a1 a2 a3 a4 a5 a6 a7 a8
theorem AWD(H:CG s ls m)(hk:k≤m){b:Bool}(hb:Za (wAt s ls k)=b):E 284 [rf] (PS4 s ls B k D) (.bool b) (PS4 s ls B k D):=by
 subst hb;unfold Za;by_cases h0:(wAt s ls k).1=0
 ·have e:((wAt s ls k).1==0||(wAt s ls k).1==2||gY.contains (wAt s ls k).2)=true:=by simp[h0]
  rw[e];exact AkZ (kdT H hk 0 h0)
 ·by_cases h2:(wAt s ls k).1=2
  ·have e:((wAt s ls k).1==0||(wAt s ls k).1==2||gY.contains (wAt s ls k).2)=true:=by simp[h2]
   rw[e];exact AkY (kdF H hk 0 h0) (kdT H hk 2 h2)
  ·have e:((wAt s ls k).1==0||(wAt s ls k).1==2||gY.contains (wAt s ls k).2)=gY.contains (wAt s ls k).2:=by simp[h0,h2]
   rw[e];exact AkX (kdF H hk 0 h0) (kdF H hk 2 h2) (isB H hk gY rfl)
theorem xu(H:CG s ls m)(hc:OkE s ls m B n c)(hb:[GH].contains (wAt s ls k).2=true)(h:G4 s ls m c r Xb k D):E 275 [rf] (PS4 s ls B k D) (trP ls r.1.1).pv (PS4 s ls B r.2.1 r.2.2):=by
 have a0:=isB (B:=B) (D:=D) H h.le [GH] hb;obtain⟨a1,h⟩:=SH (B:=B) H h.mrk;have hk1:=h.le;have h:=h.look;cases hbg:Za (wAt s ls (k+1)) with
 |true=>
  rw[hbg,if_pos rfl] at h;obtain⟨x,k2,D2,l2,a2,h⟩:=qe1 H hc h;obtain⟨k3,D3,l3,a3,h⟩:=qxp (B:=B) H [59] h;obtain⟨y,e,a4⟩:=GA (B:=B) H (f:=k) (by omega) (by simp) h
  rw[e];exact AK3 p75 a0 a1 (AWD H hk1 hbg) a2 a3 a4
 |false=>
  rw[hbg,if_neg (by simp)] at h
  obtain⟨x,a2,h⟩:=pu (B:=B) H h;obtain⟨k3,D3,l3,a3,h⟩:=qxp (B:=B) H [59] h;obtain⟨y,e,a4⟩:=GA (B:=B) H (f:=k) (by omega) (by simp) h
  rw[e];exact AK2 p75 a0 a1 (AWD H hk1 hbg) a2 a3 a4
theorem xy(H:CG s ls m)(hc:OkE s ls m B n c)(hb:[GH].contains (wAt s ls k).2=false)(h:G4 s ls m c r Zb k D):E 275 [rf] (PS4 s ls B k D) (trP ls r.1.1).pv (PS4 s ls B r.2.1 r.2.2):=by
 have a0:=isB (B:=B) (D:=D) H h.le [GH] hb;obtain⟨a1,h⟩:=SH (B:=B) H h.mrk;obtain⟨x,k2,D2,l2,a2,h⟩:=qe1 H hc h;obtain⟨k3,D3,l3,a3,h⟩:=qxp (B:=B) H [59] h;obtain⟨y,e,a4⟩:=GA (B:=B) H (f:=k) (by omega) (by simp) h
 rw[e];exact AK4 p75 a0 a1 a2 a3 a4
theorem xq(H:CG s ls m)(hc:OkE s ls m B n c)(hn:n+1≤IM)(h0:(wAt s ls k).1=0)(h:G4 s ls m c r WO k D):E 276 [rf] (PS4 s ls B k D) (trP ls r.1.1).pv (PS4 s ls B r.2.1 r.2.2):=by
 have hlt:=H.lt h.le (by omega)
 have h:=h.mrk.look;by_cases hp:(wAt s ls (k+1)).2=[40]
 ·rw[if_pos hp] at h;have a1:=uG (B:=B) (D:=D) H hlt (b:=true) (by rw[hp];rfl)
  obtain⟨a2,h⟩:=qrd (B:=B) H h;obtain⟨l,k3,D3,l3,a3,h⟩:=ze H hc hn hp h;obtain⟨k4,D4,l4,a4,h⟩:=qxp (B:=B) H [59] h;rcases a3 with⟨rfl,a3⟩ | ⟨hl,a3⟩
  ·obtain⟨y,e,a5⟩:=Ql (B:=B) H (f:=k) (by omega) h
   rw[e];exact AK0 p75 a1 a2 a3 a4 a5
  ·obtain⟨y,e,a5⟩:=GA (B:=B) H (f:=k) (by omega) hl h
   rw[e];exact AJZ p75 a1 a2 a3 a4 a5
 ·rw[if_neg hp] at h;have a1:=uG (B:=B) (D:=D) H hlt (b:=false) (by simpa using hp)
  obtain⟨x,k2,D2,l2,a2,h⟩:=pq H hc h;obtain⟨k3,D3,l3,a3,h⟩:=qxp (B:=B) H [61] h;obtain⟨v,k4,D4,l4,a4,h⟩:=qe1 H hc h;obtain⟨k5,D5,l5,a5,h⟩:=qxp (B:=B) H [59] h;obtain⟨y,e,a6⟩:=GA (B:=B) H (f:=k) (by omega) (by simp) h
  rw[e];exact AK1 p75 a1 a2 a3 a4 a5 a6
theorem qst(H:CG s ls m)(hc:OkE s ls m B n c)(hn:n+1≤IM)(h:G4 s ls m c r (prog .st) k D):E 263 [rf] (PS4 s ls B k D) (trP ls r.1.1).pv (PS4 s ls B r.2.1 r.2.2):=by
 have hk:=h.le;rcases h.ifW with⟨b1,h⟩ | ⟨b1,h⟩
 ·exact AVN (isB H hk [Og] b1) (qsv H hc b1 h)
 have a1:=isB (B:=B) (D:=D) H hk [Og] b1;rcases h.ifW with⟨b2,h⟩ | ⟨b2,h⟩
 ·exact AVM a1 (isB H hk [wIf] b2) (hc.2 _ _ _ _ _ _ h.lst h.le h.ok b2)
 have a2:=isB (B:=B) (D:=D) H hk [wIf] b2;rcases h.ifW with⟨b3,h⟩ | ⟨b3,h⟩
 ·obtain⟨x1,h⟩:=SH (B:=B) H h.mrk;obtain⟨u,k1,D1,l1,x2,h⟩:=qe1 H hc h;obtain⟨b,k2,D2,l2,x3,h⟩:=qbk H hc h;obtain⟨y,e,x4⟩:=GA (B:=B) H (f:=k) (by omega) (by simp) h
  rw[e];exact AVL a1 a2 (isB H hk [Lt] b3) p75 x1 x2 x3 x4
 have a3:=isB (B:=B) (D:=D) H hk [Lt] b3;rcases h.ifW with⟨b4,h⟩ | ⟨b4,h⟩
 ·exact AVK a1 a2 a3 (isB H hk [RU] b4) (BjW H hc b4 h)
 have a4:=isB (B:=B) (D:=D) H hk [RU] b4;rcases h.ifW with⟨b5,h⟩ | ⟨b5,h⟩
 ·exact za a1 a2 a3 a4 (isB H hk [GH,Jl] (AZK b5)) (xu H hc b5 h)
 rcases h.ifW with⟨b6,h⟩ | ⟨b6,h⟩
 ·exact za a1 a2 a3 a4 (isB H hk [GH,Jl] (AZJ b6)) (xy H hc b5 h)
 have a5:=isB (B:=B) (D:=D) H hk [GH,Jl] (AZI b5 b6);rcases h.ifK with⟨b7,h⟩ | ⟨b7,h⟩
 ·exact AVJ a1 a2 a3 a4 a5 (kdT H hk 0 b7) (xq H hc hn b7 h)
 obtain⟨a6,h⟩:=q53 (B:=B) H h;obtain⟨v,k1,D1,h1,l1,h2⟩:=h.mrk.call hc.1;obtain⟨y,e,x4⟩:=Ql (B:=B) H (f:=k) (by omega) h2
 rw[e];exact AVI a1 a2 a3 a4 a5 (kdF H hk 0 b7) a6 p75 (hc.2 _ _ _ _ _ _ h1 h.le h.ok (en ls k)) x4
theorem AWL(H:CG s ls m):∀n,n≤IM→OkE s ls m B n (runN (wAt s ls) n)
 |0,_=>⟨F6 (w5 H) 0,fun x k D v k1 D1 h=>by cases h⟩
 |n+1,hn=>by
  have hc:=AWL H n (by omega)
  refine⟨F6 (w5 H) (n+1),fun x k D v k1 D1 hrun hk hD=>?_⟩
  have h:G4 s ls m (runN (wAt s ls) n) (v,k1,D1) (prog x) k D:=⟨hrun,hk,hD⟩;clear hrun;cases x with
  |ex L=>
   intro hL
   have low:∀(L:Nat),(L=1∨L=2∨L=5∨L=6)→G4 s ls m (runN (wAt s ls) n) (v,k1,D1) (Pg.mrk fun f=>Pg.cl (.ex (L+1)) fun x=>Pg.lst (.lp L f x)) k D→
     ∃U1:Tr,∃k2 D2,E (exF (L+1)) [rf] (PS4 s ls B k D) U1.pv (PS4 s ls B k2 D2)∧
      LL iw 0 [(0,some rf),(1,some (fnv (exF (L+1)))),(2,some (sl1 (opL L))),(6,some Z0),(7,some (N k)),(8,some (N (en ls k))),(9,some U1.pv)] (PS4 s ls B k2 D2) (.exit 0)
       [(0,some rf),(1,some (fnv (exF (L+1)))),(6,some Z0),(9,some (trP ls v.1).pv)] (PS4 s ls B k1 D1):=by
    intro L hL h;obtain⟨x,k2,D2,l2,a1,h⟩:=qex H hc (L+1) (by omega) h.mrk
    exact⟨_,_,_,a1,hc.2 _ _ _ _ _ _ h.lst h.le h.ok hL l2⟩
   rcases hL with rfl | rfl | rfl | rfl | rfl | rfl
   ·obtain⟨U,k2,D2,a1,a2⟩:=low 1 (by simp) h
    exact r35 (r69 p75 rfl a1 a2)
   ·obtain⟨U,k2,D2,a1,a2⟩:=low 2 (by simp) h
    exact r70 (r69 p75 rfl a1 a2)
   ·rcases qac (B:=B) H Oh h.mrk with⟨a1,h⟩ | ⟨a1,h⟩
    ·obtain⟨x,k2,D2,l2,a2,h⟩:=qex H hc 3 (by simp) h
     obtain⟨y,e,a3⟩:=GA (B:=B) H (f:=k) (by omega) (by simp) h
     cases e;exact Av3 p75 a1 a2 a3
    ·exact BjV H hc a1 h
   ·obtain⟨U,k2,D2,a1,a2⟩:=low 5 (by simp) h
    exact BjK (r69 p75 rfl a1 a2)
   ·obtain⟨U,k2,D2,a1,a2⟩:=low 6 (by simp) h
    exact BjG (r69 p75 rfl a1 a2)
   ·rcases qac (B:=B) H [45] h.mrk with⟨a1,h⟩ | ⟨a1,h⟩
    ·obtain⟨x,k2,D2,l2,a2,h⟩:=qex H hc 7 (by simp) h
     obtain⟨y,e,a3⟩:=GA (B:=B) H (f:=k) (by omega) (by simp) h
     cases e;exact AjD p75 a1 a2 a3
    ·exact AjC p75 a1 (AWC H hc hn h)
  |lp L f x=>
   intro hL hf;have hpg:pur (exF (L+1))=false:=by rcases hL with rfl | rfl | rfl | rfl<;>rfl
   have hwd:((opL L).all spW.contains&&decide ((opL L).length<1000))=true:=by rcases hL with rfl | rfl | rfl | rfl<;>decide
   rcases G3.ifW (show G4 s ls m (runN (wAt s ls) n) (v,k1,D1) (Pg.ifW (opL L) (Pg.rd fun o=>Pg.cl (.ex (L+1)) fun y=>Pg.bd 29 o f false [x,y] fun z=>Pg.lst (.lp L f z)) (.ret (x,[]))) k D from h) with⟨hb,h⟩ | ⟨hb,h⟩
   ·have a1:=isB (B:=B) (D:=D) H hk (opL L) hb hwd;obtain⟨a2,h⟩:=qrd (B:=B) H h;obtain⟨y,k2,D2,l2,a3,h⟩:=qex H hc (L+1) (by omega) h
    have h:=h.bd;exact Xk a1 a2 hpg a3 (nd1 H (by omega) h.le 29 _ false [x,y]) (hc.2 _ _ _ _ _ _ h.lst h.le h.ok hL (by omega))
   ·have e:=h.ret;cases e;exact ah (isB (B:=B) (D:=D) H hk (opL L) hb hwd)
  |tl e acc=>
   intro hne hl;rcases qac (B:=B) H [44] h with⟨a1,h⟩ | ⟨a1,h⟩
   ·obtain⟨x,k2,D2,l2,a2,h⟩:=zb H hc e h;obtain⟨b1,b2⟩:=hc.2 _ _ _ _ _ _ h.lst h.le h.ok (by simp) (by simp;omega)
    rw[K7] at b2;exact⟨b1,Vp a1 (pI e) a2 (by rw[Mj];unfold IM at hl;unfold Bn;omega) b2⟩
   ·have e:=h.ret;cases e;exact⟨hne,Yw a1⟩
  |bk=>
   rcases qac (B:=B) H [123] h.mrk with⟨a1,h⟩ | ⟨a1,h⟩
   ·obtain⟨u,k2,D2,h1,l2,h⟩:=h.call hc.1;have a2:=hc.2 _ _ _ _ _ _ h1 (by have:=h.le;omega) (hD.le (by omega)) (by simp;omega) k (en ls k)
    obtain⟨k3,D3,l3,a3,h⟩:=qxp (B:=B) H [125] h;by_cases hu:u.2=[]
    ·rw[hu] at a2 h;obtain⟨y,e,a4⟩:=Ql (B:=B) H (f:=k) (by omega) h
     cases e;exact y7 p75 a1 a2 a3 a4
    ·obtain⟨y,e,a4⟩:=GA (B:=B) H (f:=k) (by omega) hu h
     cases e;refine y7 p75 a1 a2 a3 ?_
     have:BG 5 (Tr.pvs (EP ls u.2))=.slice false 5 (Tr.pvs (EP ls u.2)):=by
      cases hu2:u.2 with
      |nil=>exact absurd hu2 hu
      |cons a l=>rfl
     rw[this];exact a4
   ·obtain⟨a2,h⟩:=q53 (B:=B) H h;have hle:=h.le;have e:=h.bd.ret;cases e;exact AK7 p75 a1 a2 (nd0 H (Ag _) hle 11 [] false)
  |sts acc=>
   intro hl a b;rcases h.ifW with⟨hb,h⟩ | ⟨hb,h⟩
   ·have e:=h.ret;cases e;exact aa (isB H hk JF hb)
   ·rcases h.ifK with⟨h5,h⟩ | ⟨h5,h⟩
    ·have e:=h.ret;cases e;exact Z9 (isB H hk JF hb) (kdT H hk 5 h5)
    ·obtain⟨u,k2,D2,h1,l2,h⟩:=h.cl hc.1;have a1:=hc.2 _ _ _ _ _ _ h1 hk hD;have a2:=hc.2 _ _ _ _ _ _ h.lst h.le h.ok (by simp;omega) a b
     rw[K7,MC] at a2;exact Xi (isB H hk JF hb) (kdF H hk 5 h5) a1 (by rw[Tr.Fj,Aq,Mj];unfold IM at hl;unfold Bn;omega) a2
  |st=>exact qst H hc hn h
  |br=>
   intro hb;have h:=(h.mrk.read (w5 H)).2;have a1:=exT (B:=B) (D:=D) (k:=k) H (by have:=h.le;omega) wIf hb
   obtain⟨u,k2,D2,l2,a2,h⟩:=qe1 H hc h;obtain⟨b,k3,D3,l3,a3,h⟩:=qbk H hc h;rcases qac (B:=B) H VC h with⟨a4,h⟩ | ⟨a4,h⟩
   ·have hk4:=h.le;have ok4:=h.ok;rcases h.ifW with⟨b5,h⟩ | ⟨b5,h⟩
    ·obtain⟨o,k5,D5,h1,l5,h⟩:=h.cl hc.1;have a5:=hc.2 _ _ _ _ _ _ h1 hk4 ok4 b5;obtain⟨y,e,a6⟩:=GA (B:=B) H (f:=k) (by omega) (by simp) h
     cases e;exact AK9 p75 a1 a2 a3 a4 (isB H hk4 [wIf] b5) a5 a6
    ·obtain⟨o,k5,D5,l5,a5,h⟩:=qbk H hc h;obtain⟨y,e,a6⟩:=GA (B:=B) H (f:=k) (by omega) (by simp) h
     cases e;exact AK8 p75 a1 a2 a3 a4 (isB H hk4 [wIf] b5) a5 a6
   ·obtain⟨o,a5,h⟩:=pu (B:=B) H h;obtain⟨y,e,a6⟩:=GA (B:=B) H (f:=k) (by omega) (by simp) h
    cases e;exact AKA p75 a1 a2 a3 a4 a5 a6
  |sk f=>
   intro b;rcases h.ifK with⟨h5,h⟩ | ⟨h5,h⟩
   ·have e:=h.ret;cases e;exact aR (kdT H hk 5 h5)
   ·have a1:=kdF (B:=B) (D:=D) H hk 5 h5;have h:=h.mrk;by_cases hf:k=f
    ·rw[if_pos hf] at h;rcases h.ifW with⟨hb,h⟩ | ⟨hb,h⟩
     ·have e:=h.ret;cases e;exact aQ a1 (by omega) (isB H hk JF hb)
     ·obtain⟨a2,h⟩:=qrd (B:=B) H h;by_cases hs:(wAt s ls k).2=[59]
      ·rw[if_pos hs] at h;have e:=h.ret;cases e;exact aO a1 (by omega) (isB H hk JF hb) a2 hs
      ·rw[if_neg hs] at h;exact XF a1 (by omega) (isB H hk JF hb) a2 hs (hc.2 _ _ _ _ _ _ h.lst h.le h.ok b)
    ·rw[if_neg hf] at h;rcases h.ifW with⟨hb,h⟩ | ⟨hb,h⟩
     ·have e:=h.ret;cases e;exact aP a1 (by omega) (r82 (isB H hk Mm hb))
     ·obtain⟨a2,h⟩:=qrd (B:=B) H h;by_cases hs:(wAt s ls k).2=[59]
      ·rw[if_pos hs] at h;have e:=h.ret;cases e;exact aN a1 (by omega) (r82 (isB H hk Mm hb)) a2 hs
      ·rw[if_neg hs] at h;exact XE a1 (by omega) (r82 (isB H hk Mm hb)) a2 hs (hc.2 _ _ _ _ _ _ h.lst h.le h.ok b)
  |sp=>
   intro f b q hf hq;rcases h.ifK with⟨h5,h⟩ | ⟨h5,h⟩
   ·have e:=h.ret;cases e;exact av (kdT H hk 5 h5)
   ·have a1:=kdF (B:=B) (D:=D) H hk 5 h5;rcases h.ifW with⟨hb,h⟩ | ⟨hb,h⟩
    ·have e:=h.ret;cases e;exact au a1 (by omega) rfl (r55 (hq _ _) (isB H hk [Iz,K6] hb))
    ·obtain⟨a2,h⟩:=SH (B:=B) H h;exact Xn a1 (by omega) rfl (r55 (hq _ _) (isB H hk [Iz,K6] hb)) a2 (hc.2 _ _ _ _ _ _ h.lst h.le h.ok f b q (by omega) hq)
  |pg acc=>
   intro hl T hq;have hlen:(Tr.pvs (EP ls acc)).length+1≤Bn:=by rw[Tr.Fj,Aq,Mj];unfold IM at hl;unfold Bn;omega
   rcases h.ifK with⟨h5,h⟩ | ⟨h5,h⟩
   ·have e:=h.ret;cases e;exact aX (hq _ _) (kdT H hk 5 h5)
   ·have a1:=kdF (B:=B) (D:=D) H hk 5 h5;rcases h.ifW with⟨hb,h⟩ | ⟨hb,h⟩
    ·obtain⟨x,k2,D2,l2,a2,h⟩:=xw H hc hn hb h;have a3:=hc.2 _ _ _ _ _ _ h.lst h.le h.ok (by simp;omega) T hq
     rw[K7,MC] at a3;exact XX (hq _ _) a1 (isB H hk [K6] hb) a2 hlen a3
    ·have a2:=isB (B:=B) (D:=D) H hk [K6] hb;rcases h.ifW with⟨hb2,h⟩ | ⟨hb2,h⟩
     ·obtain⟨x,k2,D2,l2,a3,h⟩:=AWB H hc hn hb2 h;have a4:=hc.2 _ _ _ _ _ _ h.lst h.le h.ok (by simp;omega) T hq
      rw[K7,MC] at a4;exact XW (hq _ _) a1 a2 (isB H hk [Iz] hb2) a3 hlen a4
     ·have a3:=isB (B:=B) (D:=D) H hk [Iz] hb2;obtain⟨a4,h⟩:=q53 (B:=B) H h;obtain⟨a5,h⟩:=SH (B:=B) H h.mrk;obtain⟨u,k2,D2,h1,l2,h2⟩:=h.call hc.1;have a6:=hc.2 _ _ _ _ _ _ h1 h.le h.ok k (en ls k) (T.length+1) (by omega) hq
      have a7:LL a159 0 [(0,some rf),(1,some (.func 160 [] [.ref (T.length+1) 0])),(4,some Z0),(5,some (N k)),(6,some (N (en ls k)))] (PS4 s ls B k (rp D 7 k [])) (.exit 0) [(0,some rf),(4,some Z0),(5,some (N k)),(6,some (N (en ls k)))] (PS4 s ls B k2 D2):=
       Xo (kdF H hk 5 h5) rfl a5 a6
      have h3:=h2.bd;have a8:=hc.2 _ _ _ _ _ _ h3.lst h3.le h3.ok (by simp;omega) T hq
      rw[K7,MC] at a8;exact XV (hq _ _) a1 a2 a3 a4 (hq _ _) (r54 p75 a7 (nd0 H (by omega) h3.le 1 [] false)) hlen a8
end
end Go.Abs.Z

namespace Go.Abs.Z
section
variable{w:Nat→Wd}{m:Nat}{c c':NT→Nat→List AD→K4}{p q:Pg}{k:Nat}
def Tot(w:Nat→Wd)(m:Nat)(c:NT→Nat→List AD→K4)(p:Pg)(k:Nat):Prop:=k≤m→∀D,Dok k D→∃r,LB w c p k D=some r
theorem Tot.ret{v:Rs}:Tot w m c (.ret v) k:=fun _ D _=>⟨_,rfl⟩
theorem Tot.look{f:Wd→Wd→Nat→Pg}(h:Tot w m c (f (w k) (w (k+1)) k) k):Tot w m c (.look f) k:=h
theorem Tot.mrk{g:Nat→Pg}(h:Tot w m c (g k) k):Tot w m c (Pg.mrk g) k:=h
theorem Tot.bd{kd f:Nat}{tx:List UInt8}{b:Bool}{ks:List AT}{g:AT→Pg}(h:∀x,Tot w m c (g x) k):Tot w m c (Pg.bd kd tx f b ks g) k:=h _
theorem Tot.nod{kd f:Nat}{tx:List UInt8}{ks:List AT}:Tot w m c (Pg.nod kd tx f ks) k:=Tot.bd fun _=>.ret
theorem Tot.rep{e:Nat}{t:List UInt8}(h:Tot w m c p k):Tot w m c (.report e t p) k:=fun hk D hD=>h hk _ (hD.rp e t)
theorem Tot.ifW{ws:List (List UInt8)}(h1:ws.contains (w k).2=true→Tot w m c p k)(h2:ws.contains (w k).2=false→Tot w m c q k):Tot w m c (Pg.ifW ws p q) k:=by
 show Tot w m c (if ws.contains (w k).2=true then p else q) k
 cases hb:ws.contains (w k).2 with
 |true=>exact h1 hb
 |false=>exact h2 hb
theorem Tot.ifK{j:Nat}(h1:(w k).1=j→Tot w m c p k)(h2:(w k).1≠j→Tot w m c q k):Tot w m c (Pg.ifK j p q) k:=by
 show Tot w m c (if(w k).1=j then p else q) k
 by_cases hb:(w k).1=j
 ·rw[if_pos hb];exact h1 hb
 ·rw[if_neg hb];exact h2 hb
theorem Tot.read(he:w m=(5,[]))(h5:(w k).1≠5)(h:k<m→Tot w m c p (k+1)):Tot w m c (.read p) k:=fun hk D hD=>by
 have hlt:k<m:=by
  rcases Bc k m with h' | h'
  ·exact h'
  ·have:k=m:=by omega
   subst this;rw[he] at h5;exact absurd rfl h5
 show ∃r,(if(w k).1=5 then none else LB w c p (k+1) D)=some r
 rw[if_neg h5];exact h hlt hlt D (hD.le (by omega))
theorem ne5(he:w m=(5,[]))(h5:∀k,k≤m→(w k).1=5→(w k).2=[])(hk:k≤m){ws:List (List UInt8)}(hb:ws.contains (w k).2=true)(hn:ws.contains []=false):(w k).1≠5:=by
 intro e;rw[h5 k hk e,hn] at hb;cases hb
structure Wok(w:Nat→Wd)(m:Nat):Prop where
 fin:w m=(5,[])
 nil:∀k,k≤m→(w k).1=5→(w k).2=[]
theorem Tot.ac(H:Wok w m){ws:List (List UInt8)}(hn:ws.contains []=false)(h1:k<m→Tot w m c p (k+1))(h2:Tot w m c q k):Tot w m c (Pg.ifW ws (.read p) q) k:=fun hk=>
 Tot.ifW (fun hb=>Tot.read H.fin (ne5 H.fin H.nil hk hb hn) h1) (fun _=>h2) hk
theorem Tot.rd(he:w m=(5,[]))(h5:(w k).1≠5){g:List UInt8→Pg}(h:k<m→∀x,Tot w m c (g x) (k+1)):Tot w m c (Pg.rd g) k:=Tot.read he h5 (fun hl=>h hl _)
theorem Tot.xp(H:Wok w m){x:List UInt8}(hx:x≠[])(h:∀k1,k≤k1→Tot w m c p k1):Tot w m c (Pg.xp x p) k:=
 Tot.ac H (by cases x with | nil=>exact absurd rfl hx | cons a l=>rfl) (fun _=>h _ (by omega)) (.rep (h _ (Ag _)))
theorem Tot.nm(H:Wok w m){g:List UInt8→Pg}(h:∀x k1,k≤k1→Tot w m c (g x) k1):Tot w m c (Pg.nm g) k:=
 Tot.ifK (fun h0=>Tot.rd H.fin (by omega) fun _ x=>h x _ (by omega)) (fun _=>.rep (h _ _ (Ag _)))
theorem Tot.num(H:Wok w m){g:List UInt8→Pg}(h:∀x k1,k≤k1→Tot w m c (g x) k1):Tot w m c (Pg.num g) k:=
 Tot.ifK (fun h0=>Tot.rd H.fin (by omega) fun _ x=>h _ _ (by omega)) (fun _=>.rep (h _ _ (Ag _)))
theorem Tot.nop{g:AT→Pg}(h:∀x,Tot w m c (g x) k):Tot w m c (Pg.nop g) k:=h _
theorem Tot.miss{g:AT→Pg}(h:∀x,Tot w m c (g x) k):Tot w m c (Pg.miss g) k:=h _
def Zl(m:Nat)(c:NT→Nat→List AD→K4)(x:NT)(k:Nat):Prop:=k≤m→∀D,Dok k D→∃r,c x k D=some r
theorem Tot.call(hc:OkI m c){x:NT}{f:Rs→Pg}(hx:Zl m c x k)(h:∀v k1,k≤k1→Tot w m c (f v) k1):Tot w m c (.call x f) k:=fun hk D hD=>by
 obtain⟨⟨v,k1,D1⟩,h1⟩:=hx hk D hD;obtain⟨a1,a2,a3⟩:=hc x k D _ h1 hk hD;obtain⟨r,h2⟩:=h v k1 a1 a2 D1 a3;exact⟨r,by simp only[LB,h1,Dx];exact h2⟩
theorem Tot.cl(hc:OkI m c){x:NT}{g:AT→Pg}(hx:Zl m c x k)(h:∀v k1,k≤k1→Tot w m c (g v) k1):Tot w m c (Pg.cl x g) k:=Tot.call hc hx fun v=>h v.1
theorem Tot.lst(hc:OkI m c){x:NT}(hx:Zl m c x k):Tot w m c (Pg.lst x) k:=Tot.call hc hx fun _ _ _=>.ret
theorem Tot.wr(H:Wok w m){g:AT→Pg}(h:∀x k1,k≤k1→Tot w m c (g x) k1):Tot w m c (written g) k:=
 Tot.ac H rfl (fun _=>.mrk<|Tot.ac H rfl (fun _=>Tot.ac H rfl (fun _=>.num H fun x k1 l1=>.xp H (by decide) fun k2 l2=>.bd fun y=>h y _ (by omega)) (.bd fun y=>h y _ (by omega)))
  (Tot.ac H rfl (fun _=>.bd fun y=>h y _ (by omega)) (.ifK (fun h0=>.rd H.fin (by omega) fun _ x=>.bd fun y=>h y _ (by omega)) (fun _=>.rep (.miss fun y=>h y _ (by omega))))))
  (.nop fun x=>h x _ (Ag _))
theorem Tot.fd(H:Wok w m){g:AT→Pg}(h:∀x k1,k≤k1→Tot w m c (g x) k1):Tot w m c (Qz g) k:=
 .mrk<|.nm H fun x k1 l1=>.xp H (by decide) fun k2 l2 hk2=>Tot.ifW (fun hb=>.mrk<|.rd H.fin (ne5 H.fin H.nil hk2 hb rfl) fun _ t=>.bd fun y=>.bd fun z=>h z _ (by omega))
  (fun _=>.rep (.miss fun y=>.bd fun z=>h z _ (by omega))) hk2
theorem Tot.pa(H:Wok w m){g:AT→Pg}(h:∀x k1,k≤k1→Tot w m c (g x) k1):Tot w m c (Qo g) k:=
 .mrk<|Tot.ac H rfl (fun _=>.nm H fun x k1 l1=>.wr H fun t k2 l2=>.bd fun y=>h y _ (by omega)) (.nm H fun x k1 l1=>.wr H fun t k2 l2=>.bd fun y=>h y _ (by omega))
theorem Tot.var(H:Wok w m){g:AT→Pg}(h:∀x k1,k≤k1→Tot w m c (g x) k1):Tot w m c (Ja g) k:=
 .mrk<|.nm H fun x k1 l1=>.bd fun y=>h y _ l1
theorem Tot.el(H:Wok w m)(hc:OkI m c)(e:El){g:AT→Pg}(hx:Zl m c (.ex 1) k)(h:∀x k1,k≤k1→Tot w m c (g x) k1):Tot w m c (Wn e g) k:=by
 cases e with
 |fd=>exact .fd H h
 |pa=>exact .pa H h
 |ex=>exact .cl hc hx h
theorem Tot.li(H:Wok w m)(hc:OkI m c)(e:El){g:List AT→Pg}(hx:Zl m c (.ex 1) k)(ht:∀acc k1,k≤k1→Zl m c (.tl e acc) k1)(h:∀x k1,k≤k1→Tot w m c (g x) k1):Tot w m c (Pp e g) k:=
 .el H hc e hx fun x k1 l1=>.call hc (ht _ _ l1) fun v k2 l2=>h _ _ (by omega)
end
def rk:NT→Nat
 |.ex 1=>6
 |.ex 2=>5
 |.ex 3=>4
 |.ex 5=>3
 |.ex 6=>2
 |.ex _=>1
 |.st=>7
 |.sts _=>8
 |.pg _=>9
 |_=>0
def mu(m:Nat)(x:NT)(k:Nat):Nat:=(m - k) * 10+rk x+1
def Oy:NT→Prop
 |.ex L=>L=1∨L=2∨L=3∨L=5∨L=6∨L=7
 |.lp L _ _=>L=1∨L=2∨L=5∨L=6
 |_=>True
section
variable{w:Nat→Wd}{m:Nat}
theorem AzH(H:Wok w m){n k:Nat}{D:List AD}{r:Rs×Nat×List AD}(hk:k≤m)(hD:Dok k D)(h5:(w k).1≠5)(hs:JF.contains (w k).2=false)(hr:runN w (n+1) .st k D=some r):k<r.2.1:=by
 have hm:(w m).1=5:=by rw[H.fin]
 have hI:=F6 (w:=w) hm n
 have fin:∀{p:Pg} {D1:List AD},G3 w m (runN w n) r p (k+1) D1→k<r.2.1:=fun {p D1} h=>by
  have:=(Mw hm hI p _ _ r h.run h.le h.ok).1;omega
 have h:G3 w m (runN w n) r (prog .st) k D:=⟨hr,hk,hD⟩;rcases h.ifW with⟨_,h⟩ | ⟨_,h⟩
 ·exact fin (h.mrk.read hm).2
 rcases h.ifW with⟨_,h⟩ | ⟨_,h⟩
 ·have h1:=h.lst;cases n with
  |zero=>cases h1
  |succ n=>
   have h2:G3 w m (runN w n) r (prog .br) k D:=⟨h1,hk,hD⟩;have h3:=(h2.mrk.read hm).2;have:=(Mw hm (F6 hm n) _ _ _ r h3.run h3.le h3.ok).1;omega
 rcases h.ifW with⟨_,h⟩ | ⟨_,h⟩
 ·exact fin (h.mrk.read hm).2
 rcases h.ifW with⟨_,h⟩ | ⟨_,h⟩
 ·exact fin (h.mrk.read hm).2
 rcases h.ifW with⟨_,h⟩ | ⟨_,h⟩
 ·exact fin (h.mrk.read hm).2
 rcases h.ifW with⟨_,h⟩ | ⟨_,h⟩
 ·exact fin (h.mrk.read hm).2
 rcases h.ifK with⟨h0,h⟩ | ⟨_,h⟩
 ·have h:=h.mrk.look;by_cases hp:(w (k+1)).2=[40]
  ·rw[if_pos hp] at h;exact fin (h.rd hm).2
  ·rw[if_neg hp] at h;rcases h.mrk.mrk.ifK with⟨_,h⟩ | ⟨h',_⟩
   ·exact fin (h.rd hm).2
   ·exact absurd h0 h'
 ·obtain⟨v,k1,D1,h1,l1,h2⟩:=h.rep.mrk.call hI;cases n with
  |zero=>cases h1
  |succ n=>
   have g:G3 w m (runN w n) (v,k1,D1) (prog (.sk k)) k (rp D 6 k []):=⟨h1,hk,hD.rp 6 []⟩;rcases g.ifK with⟨h',_⟩ | ⟨_,g⟩
   ·exact absurd h' h5
   ·have g:=g.mrk;rw[if_pos rfl] at g;rcases g.ifW with⟨hb,_⟩ | ⟨_,g⟩
    ·rw[hs] at hb;cases hb
    ·have g2:=(g.rd hm).2;have e1:=(Mw hm (F6 hm n) _ _ _ _ g2.run g2.le g2.ok).1;have e2:=(Mw hm hI _ _ _ r h2.run h2.le h2.ok).1;have e1:k+1≤k1:=e1;omega
theorem zg{x y:NT}{k k1:Nat}(h:k<k1)(hm:k1≤m)(hx:rk y≤9):mu m y k1<mu m x k:=by unfold mu;omega
theorem rk9(x:NT):rk x≤9:=by
 cases x with
 |ex L=>unfold rk;split<;>omega
 |_=>simp[rk]
theorem jc(H:Wok w m):∀n x k,Oy x→(x=.br→(w k).1≠5)→mu m x k≤n→Zl m (runN w n) x k
 |0,x,k,_,_,h=>by unfold mu at h;omega
 |n+1,x,k,hx,hbr,h=>by
  have hm:(w m).1=5:=by rw[H.fin]
  have hc:=F6 (w:=w) hm n;have IH:=jc H n
  suffices hs:Tot w m (runN w n) (prog x) k from hs
  have nx:∀y k1,Oy y→k<k1→(hb:y=.br→(w k1).1≠5:=by intro e;cases e)→Zl m (runN w n) y k1:=fun y k1 hy hl hb hk1=>IH y k1 hy hb (by have:=zg (m:=m) (x:=x) hl hk1 (rk9 y);omega) hk1
  have lo:∀y k1,Oy y→rk y<rk x→k≤k1→(hb:y=.br→(w k1).1≠5:=by intro e;cases e)→Zl m (runN w n) y k1:=fun y k1 hy hr hl hb hk1=>by
   refine IH y k1 hy hb ?_ hk1
   rcases Bc k k1 with h' | h'
   ·have:=zg (m:=m) (x:=x) h' hk1 (rk9 y);omega
   ·have:k=k1:=by omega
    subst this;unfold mu at h ⊢;omega
  have hex1:Oy (.ex 1):=.inl rfl
  have args:∀{k1:Nat} {g:List AT→Pg},k≤k1→(w k1).1≠5∨True→(∀l k2,k<k2→Tot w m (runN w n) (g l) k2)→(w k1).1≠5→Tot w m (runN w n) (Uy g) k1:=fun {k1 g} l1 _ hg h5=>
   .read H.fin h5 fun hlt=>.ifW (fun hb=>.xp H (by decide) fun k2 l2=>hg _ _ (by omega)) (fun hb=>.li H hc .ex (nx _ _ hex1 (by omega)) (fun acc k2 l2=>nx _ _ trivial (by omega)) fun l k2 l2=>.xp H (by decide) fun k3 l3=>hg _ _ (by omega))
  have place:∀{k1:Nat} {g:AT→Pg},k≤k1→(∀x k2,k1≤k2→Tot w m (runN w n) (g x) k2)→Tot w m (runN w n) (Ow g) k1:=fun {k1 g} l1 hg=>
   .mrk<|.var H fun v k2 l2=>Tot.ac H rfl (fun hl=>.cl hc (nx _ _ hex1 (by omega)) fun y k3 l3=>.xp H (by decide) fun k4 l4=>.bd fun z=>hg z _ (by omega))
    (Tot.ac H rfl (fun _=>.nm H fun x k3 l3=>.bd fun z=>hg z _ (by omega)) (hg v _ l2))
  have low:∀L,Oy (.ex (L+1))→rk (.ex (L+1)) < rk x→0<rk x→(L=1∨L=2∨L=5∨L=6)→Tot w m (runN w n) (Pg.mrk fun f=>Pg.cl (.ex (L+1)) fun x=>Pg.lst (.lp L f x)) k:=fun L h1 h2 h3 h4=>
   .mrk<|.cl hc (lo _ _ h1 h2 (Ag _)) fun v k1 l1=>.lst hc (lo _ _ h4 h3 l1)
  cases x with
  |ex L=>
   rcases hx with rfl | rfl | rfl | rfl | rfl | rfl
   ·exact low 1 (by simp[Oy]) (by decide) (by decide) (by simp)
   ·exact low 2 (by simp[Oy]) (by decide) (by decide) (by simp)
   ·refine .mrk<|Tot.ac H rfl (fun hl=>.cl hc (nx _ _ (by simp[Oy]) (by omega)) fun v k1 l1=>.nod) ?_
    exact .mrk<|.cl hc (lo (.ex 5) _ (by simp[Oy]) (by decide) (Ag _)) fun v k1 l1 hk1=>Tot.ifW (fun hb=>.rd H.fin (ne5 H.fin H.nil hk1 hb rfl) fun _ o=>.cl hc (nx _ _ (by simp[Oy]) (by omega)) fun y k2 l2=>.nod) (fun _=>.ret) hk1
   ·exact low 5 (by simp[Oy]) (by decide) (by decide) (by simp)
   ·exact low 6 (by simp[Oy]) (by decide) (by decide) (by simp)
   ·refine .mrk<|Tot.ac H rfl (fun hl=>.cl hc (nx _ _ (by simp[Oy]) (by omega)) fun v k1 l1=>.nod) ?_
    refine .mrk<|.ifK (fun h2=>.rd H.fin (by omega) fun _ x=>.nod) fun _=>?_
    intro hk;refine Tot.ifW (fun hb=>.rd H.fin (ne5 H.fin H.nil hk hb rfl) fun _ x=>.nod) (fun _=>?_) hk
    refine .look ?_
    by_cases h0:(w k).1=0
    ·by_cases hp:(w (k+1)).2=[40]
     ·rw[if_pos ⟨h0,hp⟩];refine .rd H.fin (by omega) fun hl x hk1=>args (by omega) (.inr trivial) (fun l k2 l2=>.nod) ?_ hk1
      intro e;have:=H.nil _ hk1 e;rw[hp] at this;cases this
     ·rw[if_neg (fun x=>hp x.2),if_pos h0]
      exact place (Ag _) fun x k2 l2=>.ret
    ·rw[if_neg (fun x=>h0 x.1),if_neg h0]
     exact Tot.ac H rfl (fun hl=>.li H hc .ex (nx _ _ hex1 (by omega)) (fun acc k2 l2=>nx _ _ trivial (by omega)) fun l k2 l2=>.xp H (by decide) fun k3 l3=>.nod)
      (Tot.ac H rfl (fun hl=>.xp H (by decide) fun k2 l2=>.var H fun v k3 l3=>.xp H (by decide) fun k4 l4=>.nod)
      (Tot.ac H rfl (fun hl=>.cl hc (nx _ _ hex1 (by omega)) fun v k2 l2=>.xp H (by decide) fun k3 l3=>.ret)
      (.rep (.miss fun x=>.ret))))
  |lp L f x=>
   have hn:(opL L).contains []=false:=by rcases hx with rfl | rfl | rfl | rfl<;>rfl
   show Tot w m (runN w n) (Pg.ifW (opL L) (Pg.rd fun o=>Pg.cl (.ex (L+1)) fun y=>Pg.bd 29 o f false [x,y] fun z=>Pg.lst (.lp L f z)) (.ret (x,[]))) k
   intro hk;exact Tot.ifW (fun hb=>.rd H.fin (ne5 H.fin H.nil hk hb hn) fun _ o=>.cl hc (nx _ _ (by rcases hx with rfl | rfl | rfl | rfl<;>simp[Oy]) (by omega)) fun y k2 l2=>.bd fun z=>.lst hc (nx _ _ hx (by omega))) (fun _=>.ret) hk
  |tl e acc=>exact Tot.ac H rfl (fun hl=>.el H hc e (nx _ _ hex1 (by omega)) fun x k1 l1=>.lst hc (nx _ _ trivial (by omega))) .ret
  |bk=>exact .mrk<|Tot.ac H rfl (fun hl=>.call hc (nx _ _ trivial (by omega)) fun v k1 l1=>.xp H (by decide) fun k2 l2=>.nod) (.rep (.bd fun x=>.ret))
  |sts acc=>
   refine .ifW (fun _=>.ret) fun hs=>.ifK (fun _=>.ret) fun h5=>?_
   intro hk D hD;have hst:=lo .st k trivial (by simp[rk]) (Ag _) (fun e=>by cases e) hk D hD
   obtain⟨⟨v,k1,D1⟩,h1⟩:=hst;obtain⟨a1,a2,a3⟩:=hc _ _ _ _ h1 hk hD
   have hlt:k<k1:=by
    cases n with
    |zero=>cases h1
    |succ n=>exact AzH H hk hD h5 hs h1
   obtain⟨r,h2⟩:=nx (.sts (acc++[v.1])) k1 trivial hlt (fun e=>by cases e) a2 D1 a3
   exact⟨r,by simp only[Pg.cl,LB,h1,Dx,Pg.lst];rw[h2];rfl⟩
  |st=>
   intro hk;refine Tot.ifW (fun hb=>.mrk<|.read H.fin (ne5 H.fin H.nil hk hb rfl) fun _=>.nm H fun x k1 l1=>.wr H fun t k2 l2=>.xp H (by decide) fun k3 l3=>.cl hc (nx _ _ hex1 (by omega)) fun v k4 l4=>.xp H (by decide) fun k5 l5=>.nod) (fun _=>?_) hk
   refine .ifW (fun hb=>.lst hc (lo .br _ trivial (by simp[rk]) (Ag _) (fun _=>ne5 H.fin H.nil hk hb rfl))) (fun _=>?_)
   refine .ifW (fun hb=>.mrk<|.read H.fin (ne5 H.fin H.nil hk hb rfl) fun _=>.cl hc (nx _ _ hex1 (by omega)) fun v k1 l1=>.cl hc (nx _ _ trivial (by omega)) fun b k2 l2=>.nod) (fun _=>?_)
   refine .ifW (fun hb=>.mrk<|.read H.fin (ne5 H.fin H.nil hk hb rfl) fun _=>.nm H fun x k1 l1=>.xp H (by decide) fun k2 l2=>.cl hc (nx _ _ hex1 (by omega)) fun v k3 l3=>.xp H (by decide) fun k4 l4=>
    .cl hc (nx _ _ hex1 (by omega)) fun v k5 l5=>.cl hc (nx _ _ trivial (by omega)) fun b k6 l6=>.nod) (fun _=>?_)
   refine .ifW (fun hb=>.mrk<|.read H.fin (ne5 H.fin H.nil hk hb rfl) fun _=>.look ?_) (fun _=>?_)
   ·cases Za (w (k+1)) with
    |true=>rw[if_pos rfl];exact .cl hc (nx _ _ hex1 (by omega)) fun v k1 l1=>.xp H (by decide) fun k2 l2=>.nod
    |false=>rw[if_neg (by simp)];exact .nop fun x=>.xp H (by decide) fun k2 l2=>.nod
   refine .ifW (fun hb=>.mrk<|.read H.fin (ne5 H.fin H.nil hk hb rfl) fun _=>.cl hc (nx _ _ hex1 (by omega)) fun v k1 l1=>.xp H (by decide) fun k2 l2=>.nod) (fun _=>?_)
   refine .ifK (fun h0=>.mrk<|.look ?_) fun _=>.rep<|.mrk<|.call hc (lo _ _ trivial (by simp[rk]) (Ag _)) fun v k1 l1=>.nod
   by_cases hp:(w (k+1)).2=[40]
   ·rw[if_pos hp];refine .rd H.fin (by omega) fun hl x hk1=>args (by omega) (.inr trivial) (fun l k2 l2=>.xp H (by decide) fun k3 l3=>.nod) ?_ hk1
    intro e;have:=H.nil _ hk1 e;rw[hp] at this;cases this
   ·rw[if_neg hp];exact place (Ag _) fun x k2 l2=>.xp H (by decide) fun k3 l3=>.cl hc (lo _ _ hex1 (by decide) (by omega)) fun v k4 l4=>.xp H (by decide) fun k5 l5=>.nod
  |br=>
   exact Tot.mrk (.read H.fin (hbr rfl) fun _=>.cl hc (nx _ _ hex1 (by omega)) fun v k1 l1=>.cl hc (nx _ _ trivial (by omega)) fun b k2 l2=>Tot.ac H rfl (fun hl hk3=>Tot.ifW (fun hb=>.cl hc (nx .br _ trivial (by omega) (fun _=>ne5 H.fin H.nil hk3 hb rfl)) fun o k3 l3=>.nod)
    (fun _=>.cl hc (nx _ _ trivial (by omega)) fun o k3 l3=>.nod) hk3) (.nop fun o=>.nod))
  |sk f=>
   refine .ifK (fun _=>.ret) fun h5=>.mrk ?_
   by_cases hf:k=f
   ·rw[if_pos hf];refine .ifW (fun _=>.ret) fun _=>.rd H.fin h5 fun _ x=>?_
    by_cases hs:x=[59]
    ·rw[if_pos hs];exact .ret
    ·rw[if_neg hs];exact .lst hc (nx _ _ trivial (by omega))
   ·rw[if_neg hf];refine .ifW (fun _=>.ret) fun _=>.rd H.fin h5 fun _ x=>?_
    by_cases hs:x=[59]
    ·rw[if_pos hs];exact .ret
    ·rw[if_neg hs];exact .lst hc (nx _ _ trivial (by omega))
  |sp=>exact .ifK (fun _=>.ret) fun h5=>.ifW (fun _=>.ret) fun _=>.read H.fin h5 fun _=>.lst hc (nx _ _ trivial (by omega))
  |pg acc=>
   refine .ifK (fun _=>.ret) fun h5=>?_
   refine .ifW (fun hb=>.mrk<|.read H.fin h5 fun _=>.nm H fun x k1 l1=>.xp H (by decide) fun k2 l2=>.li H hc .fd (nx _ _ hex1 (by omega)) (fun acc k3 l3=>nx _ _ trivial (by omega)) fun l k3 l3=>.xp H (by decide) fun k4 l4=>.bd fun y=>.lst hc (nx _ _ trivial (by omega))) fun _=>?_
   refine .ifW (fun hb=>.mrk<|.read H.fin h5 fun _=>.nm H fun x k1 l1=>.mrk<|.xp H (by decide) fun k2 l2=>?_) fun _=>.rep<|.mrk<|.read H.fin h5 fun _=>.call hc (nx _ _ trivial (by omega)) fun v k1 l1=>.bd fun y=>.lst hc (nx _ _ trivial (by omega))
   have rest:∀(y:AT) (k3:Nat),k<k3→Tot w m (runN w n) (written fun t=>Pg.cl .bk fun b=>Pg.bd 5 x k false [y,t,b] fun x=>Pg.lst (.pg (acc++[x]))) k3:=fun y k3 l3=>
    .wr H fun t k4 l4=>.cl hc (nx _ _ trivial (by omega)) fun b k5 l5=>.bd fun z=>.lst hc (nx _ _ trivial (by omega))
   exact .ifW (fun _=>.xp H (by decide) fun k3 l3=>.bd fun y=>rest y _ (by omega)) (fun _=>.li H hc .pa (nx _ _ hex1 (by omega)) (fun acc k3 l3=>nx _ _ trivial (by omega)) fun l k3 l3=>.xp H (by decide) fun k4 l4=>.bd fun y=>rest y _ (by omega))
end
end Go.Abs.Z

namespace Go.Abs.Z
def Asc(l:List Dg):Prop:=l.Pairwise fun d e=>d.a≤e.a
def fk(k:Nat)(l:List Dg):List Dg:=l.filter fun d=>d.a==k
structure Sd(l r:List Dg):Prop where
 asc:Asc r
 perm:r.Perm l
 keep:∀k,fk k r=fk k l
theorem Gd(k:Nat)(l m:List Dg):fk k (l++m)=fk k l++fk k m:=CL ..
theorem JM{l m:List Dg}:Asc (l++m)↔Asc l∧Asc m∧∀x∈l,∀y∈m,x.a≤y.a:=Et
theorem Sd.len{l r:List Dg}(h:Sd l r):r.length=l.length:=h.perm.length_eq
theorem Sd.mem{l r:List Dg}(h:Sd l r){d:Dg}:d∈r↔d∈l:=h.perm.mem_iff
theorem Sd.refl{l:List Dg}(h:Asc l):Sd l l:=⟨h,.refl _,fun _=>rfl⟩
theorem Sd.trans{l m r:List Dg}(h:Sd l m)(h':Sd m r):Sd l r:=⟨h'.asc,h'.perm.trans h.perm,fun k=>(h'.keep k).trans (h.keep k)⟩
theorem AY1{k:Nat}{x y:Dg}(h:x.a≠y.a)(l:List Dg):fk k (x::y::l)=fk k (y::x::l):=by
 simp only[fk,Dy];by_cases h1:x.a=k
 ·have:¬y.a=k:=fun h2=>h (h1.trans h2.symm)
  simp[h1,this]
 ·simp[h1]
theorem jP{k:Nat}{u v:List Dg}(h:∀x∈u,∀y∈v,x.a≠y.a):fk k (u++v)=fk k (v++u):=by
 rw[Gd,Gd];by_cases hu:fk k u=[]
 ·rw[hu];simp
 ·by_cases hv:fk k v=[]
  ·rw[hv];simp
  ·exfalso
   obtain⟨x,hx⟩:=List.exists_mem_of_ne_nil _ hu;obtain⟨y,hy⟩:=List.exists_mem_of_ne_nil _ hv;simp only[fk,Ck,beq_iff_eq] at hx hy;exact h x hx.1 y hy.1 (hx.2.trans hy.2.symm)
theorem Sd.join{A1 A2 B1 B2 R1 R2:List Dg}(h1:Sd (A1++B1) R1)(h2:Sd (A2++B2) R2)(hA:Asc (A1++A2))(hB:Asc (B1++B2))(c1:∀x∈A1,∀y∈B2,x.a≤y.a)(c2:∀x∈A2,∀y∈B1,y.a<x.a):
  Sd ((A1++A2)++(B1++B2)) (R1++R2):=by
 have hA':=(JM.1 hA).2.2;have hB':=(JM.1 hB).2.2;refine⟨JM.2 ⟨h1.asc,h2.asc,fun x hx y hy=>?_⟩,?_,fun k=>?_⟩
 ·rcases Cm.1 (h1.mem.1 hx) with hx | hx<;>rcases Cm.1 (h2.mem.1 hy) with hy | hy
  ·exact hA' x hx y hy
  ·exact c1 x hx y hy
  ·exact Dz (c2 y hy x hx)
  ·exact hB' x hx y hy
 ·refine(h1.perm.append h2.perm).trans ?_
  rw[AP,AP];refine List.Perm.append_left _ ?_
  rw[←AP,←AP];exact List.Perm.append_right _ List.perm_append_comm
 ·rw[Gd,h1.keep,h2.keep,Gd,Gd,Gd,Gd,Gd];have:=jP (k:=k) (u:=A2) (v:=B1) fun x hx y hy=>by have:=c2 x hx y hy;omega
  rw[Gd,Gd] at this;rw[AP,AP,←AP (fk k B1),←this,AP]
theorem Sd.lC{A:List Dg}(h:Asc A):Sd (A++[]) A:=by simpa using Sd.refl h
theorem rM{P L R Q:List Dg}(h:∀k,fk k R=fk k L)(k:Nat):fk k (P++R++Q)=fk k (P++L++Q):=by rw[Gd,Gd,Gd,Gd,h]
theorem pX{P L R Q:List Dg}(h:R.Perm L):(P++R++Q).Perm (P++L++Q):=(h.append_left P).append_right Q
def seg(l:List Dg)(x y:Nat):List Dg:=(l.drop x).take y
theorem OW{P R Q:List Dg}{x y:Nat}(h:x+y≤P.length):seg (P++R++Q) x y=seg P x y:=by
 unfold seg;rw[AP,List.drop_append_of_le_length (by omega),List.take_append_of_le_length (by rw[AU];omega)]
theorem kG{P R R' Q:List Dg}{x y:Nat}(he:R.length=R'.length)(h:P.length+R.length≤x):seg (P++R++Q) x y=seg (P++R'++Q) x y:=by
 unfold seg
 have e:∀R:List Dg,P.length+R.length≤x→(P++R++Q).drop x=Q.drop (x - (P.length+R.length)):=fun R h=>by
  rw[List.drop_append,Cf (by rw[Af];exact h),Bj,Af]
 rw[e R h,e R' (by omega),he]
theorem nY(l:List Dg){x y:Nat}(h:x+y≤l.length):∃P Q,l=P++seg l x y++Q∧P.length=x∧(seg l x y).length=y:=by
 refine⟨l.take x,(l.drop x).drop y,?_,by rw[Ba];omega,by unfold seg;rw[Ba,AU];omega⟩
 unfold seg;rw[AP,BK,BK]
theorem wz(l:List Dg)(x y z:Nat):seg l x (y+z)=seg l x y++seg l (x+y) z:=by
 unfold seg;rw[List.take_add,Co]
end Go.Abs.Z

namespace Go.Abs.Z
open Go.Proofs Go.RowKit
theorem gP{d e:Dg}(h1:d.a<1000000000)(h2:e.a<1000000000):E 223 [d.pv,e.pv] [] (I ((d.a:Int) - e.a)) []:=BjT (by simp[IntKind.wrap,IntKind.bits,IntKind.signed];omega)
theorem LU{α:Type}{A:List α}{x:α}{B:List α}{i:Nat}(hi:i=A.length):(A++x::B)[i]?=some x:=by subst hi;simp
theorem Kw{α:Type}{A:List α}{x y:α}{B:List α}{i:Nat}(hi:i=A.length):(A++x::B).set i y=A++y::B:=by subst hi;simp
section
variable{H T:Sto}{g n:Nat}
abbrev fnc:PV:=.func 223 [] []
theorem iH(hn:n<1000000000):∀(U2 V2:List Dg) (P U1 V1 M Q:List Dg) {a b c i:Nat},U1.length=i→V1.length=i→U2.length=V2.length→a=P.length→b=P.length+(V1.length+U2.length)+M.length→c=i+U2.length→(P++V1++U2++M++U1++V2++Q).length=n→
  LL mJ 0 [(0,some (.arr H.length g 0 n 5)),(1,some (N a)),(2,some (N b)),(3,some (N c)),(10,some (N i))] (aS H T g (P++V1++U2++M++U1++V2++Q)) (.exit 0) [] (aS H T g (P++V1++V2++M++U1++U2++Q))
 |[],[],P,U1,V1,M,Q,a,b,c,i,h1,h2,h3,h4,h5,h6,h7=>X3 (by simp at h6;omega)
 |[],_::_,_,_,_,_,_,_,_,_,_,_,_,h3,_,_,_,_=>by simp at h3
 |_::_,[],_,_,_,_,_,_,_,_,_,_,_,h3,_,_,_,_=>by simp at h3
 |u::U2,v::V2,P,U1,V1,M,Q,a,b,c,i,h1,h2,h3,h4,h5,h6,h7=>by
  simp only[Af,Al] at h3 h5 h6 h7;have e1:P++V1++(u::U2)++M++U1++(v::V2)++Q=(P++V1)++u::(U2++M++U1++v::(V2++Q)):=by simp
  have e2:P++V1++(u::U2)++M++U1++(v::V2)++Q=(P++V1++u::U2++M++U1)++v::(V2++Q):=by simp
  have s1:(P++V1++(u::U2)++M++U1++(v::V2)++Q).set (a+i) v=(P++V1++v::U2++M++U1)++v::(V2++Q):=by
   rw[e1,Kw (by simp;omega)];simp
  have s2:((P++V1++(u::U2)++M++U1++(v::V2)++Q).set (a+i) v).set (b+i) u=P++(V1++[v])++U2++M++(U1++[u])++V2++Q:=by
   rw[s1,Kw (by simp;omega)];simp
  refine UW (by omega) (by omega) (by omega) (by omega) (by omega) (d1:=v) (by rw[e2];exact LU (by simp;omega)) (by omega) (d2:=u) (by rw[e1];exact LU (by simp;omega)) (by simp;omega) (by rw[CV];simp;omega) ?_
  rw[s2];have e3:P++V1++(v::V2)++M++U1++(u::U2)++Q=P++(V1++[v])++V2++M++(U1++[u])++U2++Q:=by simp
  rw[e3];exact iH hn U2 V2 P (U1++[u]) (V1++[v]) M Q (by simp;omega) (by simp;omega) (by omega) h4 (by simp;omega) (by omega) (by simp;omega)
theorem AQ5(hn:n<1000000000){P U M V Q:List Dg}{a b c:Nat}(h3:U.length=V.length)(h4:a=P.length)(h5:b=P.length+U.length+M.length)(h6:c=U.length)(h7:(P++U++M++V++Q).length=n):
  E 291 [.arr H.length g 0 n 5,N a,N b,N c,fnc] (aS H T g (P++U++M++V++Q)) (.tuple []) (aS H T g (P++V++M++U++Q)):=by
 have:=iH (H:=H) (T:=T) (g:=g) hn U V P [] [] M Q (i:=0) (a:=a) (b:=b) (c:=c) rfl rfl h3 h4 (by simp;omega) (by omega) (by simpa using h7)
 simp only[Az] at this;exact BjE this
theorem Xa(hn:n<1000000000)(m:Nat):∀(k:Nat) (P U V Q:List Dg) {i j:Nat},U.length+V.length≤k→0<i→0<j→i=U.length→j=V.length→m=P.length+U.length→(P++U++V++Q).length=n→
  ∃P' U' V' Q',LL dV 0 [(0,some (.arr H.length g 0 n 5)),(2,some (N m)),(4,some fnc),(10,some (N i)),(11,some (N j))] (aS H T g (P++U++V++Q)) (.exit 0) [(0,some (.arr H.length g 0 n 5)),(2,some (N m)),(4,some fnc),(10,some (N U'.length))] (aS H T g (P'++U'++V'++Q'))∧
   U'.length=V'.length∧m=P'.length+U'.length∧(P'++U'++V'++Q').length=n∧P'++V'++U'++Q'=P++V++U++Q
 |0,P,U,V,Q,i,j,hk,hi,hj,e1,e2,hm,hl=>by omega
 |k+1,P,U,V,Q,i,j,hk,hi,hj,e1,e2,hm,hl=>by
  have hl':=hl;simp only[Af] at hl';by_cases c1:i=j
  ·exact⟨P,U,V,Q,by rw[←e1];exact X4 (by omega),by omega,hm,hl,rfl⟩
  ·by_cases c2:j<i
   ·obtain⟨U1,U2,rfl,hu⟩:∃U1 U2,U=U1++U2∧U1.length=j:=⟨U.take j,U.drop j,(BK j U).symm,by rw[Ba];omega⟩
    simp only[Af] at hk e1 hm hl';obtain⟨P',U',V',Q',hL,f1,f2,f3,f4⟩:=Xa hn m k (P++V) U2 U1 Q (i:=i - j) (j:=j) (by omega) (by omega) (by omega) (by omega) (by omega) (by simp;omega) (by simp;omega)
    have hs:=AQ5 (H:=H) (T:=T) (g:=g) hn (P:=P) (U:=U1) (M:=U2) (V:=V) (Q:=Q) (a:=m - i) (b:=m) (c:=j) (by omega) (by omega) (by omega) (by omega) (by simp;omega)
    refine⟨P',U',V',Q',UY (by omega) (by omega) (by omega) (by omega) (by simpa using hs) (by omega) (by omega) (by simpa using hL),f1,f2,f3,?_⟩
    rw[f4];simp
   ·obtain⟨V1,V2,rfl,hv⟩:∃V1 V2,V=V1++V2∧V1.length=j - i:=⟨V.take (j - i),V.drop (j - i),(BK (j - i) V).symm,by rw[Ba];omega⟩
    simp only[Af] at hk e2 hl';obtain⟨P',U',V',Q',hL,f1,f2,f3,f4⟩:=Xa hn m k P V2 V1 (U++Q) (i:=i) (j:=j - i) (by omega) (by omega) (by omega) (by omega) (by omega) (by omega) (by simp;omega)
    have hs:=AQ5 (H:=H) (T:=T) (g:=g) hn (P:=P) (U:=U) (M:=V1) (V:=V2) (Q:=Q) (a:=m - i) (b:=m+j - i) (c:=i) (by omega) (by omega) (by omega) (by omega) (by simp;omega)
    refine⟨P',U',V',Q',UX (by omega) (by omega) (by omega) (by omega) (by omega) (by omega) (by omega) (by simpa using hs) (by omega) (by simpa using hL),f1,f2,f3,?_⟩
    rw[f4];simp
theorem e154(hn:n<1000000000){P U V Q:List Dg}{a m b:Nat}(hu:U≠[])(hv:V≠[])(h4:a=P.length)(h5:m=P.length+U.length)(h6:b=m+V.length)(h7:(P++U++V++Q).length=n):
  E 281 [.arr H.length g 0 n 5,N a,N m,N b,fnc] (aS H T g (P++U++V++Q)) (.tuple []) (aS H T g (P++V++U++Q)):=by
 have hu':=CY.2 hu;have hv':=CY.2 hv;have h7':=h7;simp only[Af] at h7';obtain⟨P',U',V',Q',hL,f1,f2,f3,f4⟩:=Xa (H:=H) (T:=T) (g:=g) hn m _ P U V Q (i:=m - a) (j:=b - m) (Ag _) (by omega) (by omega) (by omega) (by omega) h5 h7
 have f3':=f3;simp only[Af] at f3';rw[←f4];have hs:=AQ5 (H:=H) (T:=T) (g:=g) hn (P:=P') (U:=U') (M:=[]) (V:=V') (Q:=Q') (a:=m - U'.length) (b:=m) (c:=U'.length) f1 (by omega) (by simp;omega) rfl (by simp;omega)
 simp only[Az] at hs;exact BjF (by omega) (by omega) (by omega) (by omega) hL (by omega) hs
end
end Go.Abs.Z

namespace Go.Abs.Z
open Go.Proofs Go.RowKit
section
variable{H T:Sto}{g n:Nat}
def Bd(l:List Dg):Prop:=∀d∈l,d.a<1000000000
theorem yw(hn:n<1000000000){a b k:Nat}(P Q:List Dg)(x:Dg):∀(z:Nat) (S1 S2:List Dg) {j:Nat},S1.length=z→a=P.length→j=P.length+S1.length→Asc (S1++S2)→(∀y∈S2,x.a<y.a)→Bd (S1++x::S2)→(P++(S1++x::S2)++Q).length=n→
  ∃R j',LL PZ 1 [(0,some (.arr H.length g 0 n 5)),(1,some (N a)),(2,some (N b)),(3,some fnc),(8,some (N k)),(9,some (N j))] (aS H T g (P++(S1++x::S2)++Q)) (.exit 2) [(0,some (.arr H.length g 0 n 5)),(1,some (N a)),(2,some (N b)),(3,some fnc),(8,some (N k)),(9,some (N j'))] (aS H T g (P++R++Q))∧Sd (S1++x::S2) R:=by
 intro z
 induction z with
 |zero=>
  intro S1 S2 j hz ha hj hs hx hb hl;have:=Aw.1 hz;subst this;refine⟨_,j,Yb (by simp at hj;omega),Sd.refl ?_⟩
  exact BR.2 ⟨fun y hy=>Dz (hx y hy),by rw[Bj] at hs;exact hs⟩
 |succ z ih=>
  intro S1 S2 j hz ha hj hs hx hb hl
  obtain⟨S1,y,rfl⟩:∃S y,S1=S++[y]:=by
   rcases List.eq_nil_or_concat S1 with h | ⟨S,y,h⟩
   ·rw[h] at hz;cases hz
   ·exact⟨S,y,by simpa using h⟩
  have hl':=hl;simp only[Af,Al,Bo] at hz;simp only[Af,Al,Bo] at hl' hj;have e1:P++(S1++[y]++x::S2)++Q=(P++S1++[y])++x::(S2++Q):=by simp
  have e2:P++(S1++[y]++x::S2)++Q=(P++S1)++y::x::(S2++Q):=by simp
  have g1:(P++(S1++[y]++x::S2)++Q)[j]?=some x:=by rw[e1];exact LU (by simp;omega)
  have g2:(P++(S1++[y]++x::S2)++Q)[j - 1]?=some y:=by rw[e2];exact LU (by simp;omega)
  have hc:=gP (hb x (by simp)) (hb y (by simp))
  by_cases c:x.a<y.a
  ·have s1:((P++(S1++[y]++x::S2)++Q).set j y).set (j - 1) x=P++(S1++x::(y::S2))++Q:=by
    rw[e1,Kw (by simp;omega)]
    have:(P++S1++[y])++y::(S2++Q)=(P++S1)++y::y::(S2++Q):=by simp
    rw[this,Kw (by simp;omega)];simp
   obtain⟨R,j',hL,hR⟩:=ih S1 (y::S2) (j:=j - 1) (by omega) ha (by omega) (by simpa using hs) (fun z hz=>by
    rcases AY.1 hz with rfl | hz
    ·exact c
    ·exact hx z hz) (fun z hz=>hb z (by simp at hz ⊢;rcases hz with h | h | h | h<;>simp[h])) (by simp;omega)
   refine⟨R,j',Ve (by omega) (by omega) g1 (by omega) (by omega) (by omega) g2 hc (by omega) (by simp;omega) (by rw[CV];simp;omega) (by rw[s1];exact hL),hR.asc,hR.perm.trans ?_,fun z=>(hR.keep z).trans ?_⟩
   ·rw[AP];exact List.Perm.append_left _ (List.Perm.swap _ _ _)
   ·rw[AP,Gd,Gd];congr 1;exact AY1 (by omega) _
  ·refine⟨_,j,Ya (by omega) (by omega) g1 (by omega) (by omega) (by omega) g2 hc (by omega),Sd.refl ?_⟩
   rw[JM] at hs ⊢;refine⟨hs.1,BR.2 ⟨fun z hz=>Dz (hx z hz),hs.2.1⟩,fun z hz w hw=>?_⟩
   rcases AY.1 hw with rfl | hw
   ·rcases Cm.1 hz with hz | hz
    ·have:=(JM.1 hs.1).2.2 z hz y (by simp);omega
    ·rw[CK] at hz;subst hz;omega
   ·exact hs.2.2 z hz w hw
theorem jK(hn:n<1000000000){a b:Nat}(P Q:List Dg):∀(L S S0:List Dg) {k:Nat},a=P.length→k=P.length+S.length→b=k+L.length→Sd S0 S→Bd (S++L)→(P++(S++L)++Q).length=n→
  ∃R,LL PZ 0 [(0,some (.arr H.length g 0 n 5)),(1,some (N a)),(2,some (N b)),(3,some fnc),(8,some (N k))] (aS H T g (P++(S++L)++Q)) (.exit 0) [(1,some (N a))] (aS H T g (P++R++Q))∧Sd (S0++L) R
 |[],S,S0,k,ha,hk,hb,hS,hB,hl=>⟨S,by rw[Az];exact O7 (by simp at hb;omega),by simpa using hS⟩
 |x::L,S,S0,k,ha,hk,hb,hS,hB,hl=>by
  have hl':=hl;simp only[Af,Al] at hl' hb;obtain⟨R1,j,h1,f1⟩:=yw (H:=H) (T:=T) (g:=g) (b:=b) (k:=k) hn P (L++Q) x S.length S [] (j:=k) rfl ha hk (by simpa using hS.asc) (fun y h=>by cases h) (fun z hz=>hB z (by simp at hz ⊢;rcases hz with h | h<;>simp[h])) (by simp;omega)
  have hlen:=f1.len;simp only[Af,Al,Bo] at hlen
  obtain⟨R,h2,f2⟩:=jK hn (b:=b) P Q L R1 (S0++[x]) (k:=k+1) ha (by omega) (by omega) ⟨f1.asc,f1.perm.trans (hS.perm.append_right [x]),fun z=>by rw[f1.keep,Gd,Gd,hS.keep]⟩ (fun z hz=>by
   rcases Cm.1 hz with hz | hz
   ·exact hB z (by have:=f1.mem.1 hz;simp at this ⊢;rcases this with h | h<;>simp[h])
   ·exact hB z (by simp[hz])) (by simp;omega)
  refine⟨R,Vf (by omega) (by simpa using h1) (by omega) (by simpa using h2),by simpa using f2⟩
theorem Bx2(hn:n<1000000000){P L Q:List Dg}{a b:Nat}(ha:a=P.length)(hb:b=a+L.length)(hB:Bd L)(hl:(P++L++Q).length=n):
  ∃R,E 268 [.arr H.length g 0 n 5,N a,N b,fnc] (aS H T g (P++L++Q)) (.tuple []) (aS H T g (P++R++Q))∧Sd L R:=by
 have hl':=hl;simp only[Af] at hl';cases L with
 |nil=>exact⟨[],AW7 (by omega) (O7 (by simp at hb;omega)),Sd.refl List.Pairwise.nil⟩
 |cons x L=>
  simp only[Al] at hb hl';obtain⟨R,h,f⟩:=jK (H:=H) (T:=T) (g:=g) (b:=b) hn P Q L [x] [x] (k:=a+1) ha (by simp;omega) (by omega) (Sd.refl (CB _ _)) hB hl
  exact⟨R,AW7 (by omega) h,f⟩
theorem Un{LEp:Nat→Nat→Nat→Prop}{f:Nat→Prop}{lo hi:Nat}(out:∀i j,¬i<j→LEp i j i)(next1:∀i j r,lo≤i→i<j→j≤hi→f ((i+j) / 2)→LEp ((i+j) / 2+1) j r→LEp i j r)
  (next2:∀i j r,lo≤i→i<j→j≤hi→¬f ((i+j) / 2)→LEp i ((i+j) / 2) r→LEp i j r) :
  ∀(k i j:Nat),j - i≤k→lo≤i→i≤j→j≤hi→(i=lo∨f (i - 1))→(j=hi∨¬f j)→∃r,LEp i j r∧lo≤r∧r≤hi∧(r=lo∨f (r - 1))∧(r=hi∨¬f r)
 |0,i,j,hk,h1,h2,h3,h4,h5=>by
  have:i=j:=by omega
  subst this;exact⟨i,out i i (by omega),h1,h3,h4,h5⟩
 |k+1,i,j,hk,h1,h2,h3,h4,h5=>by
  by_cases c:i<j
  ·by_cases hf:f ((i+j) / 2)
   ·obtain⟨r,hr,x⟩:=Un out next1 next2 k ((i+j) / 2+1) j (by omega) (by omega) (by omega) h3 (.inr (by simpa using hf)) h5
    exact⟨r,next1 i j r h1 c h3 hf hr,x⟩
   ·obtain⟨r,hr,x⟩:=Un out next1 next2 k i ((i+j) / 2) (by omega) h1 (by omega) (by omega) h4 (.inr hf)
    exact⟨r,next2 i j r h1 c h3 hf hr,x⟩
  ·have:i=j:=by omega
   subst this;exact⟨i,out i i (by omega),h1,h3,h4,h5⟩
def ky(l:List Dg)(i:Nat):Nat:=match l[i]? with
 |some d=>d.a
 |none=>0
theorem Ld{l:List Dg}{i:Nat}{d:Dg}(h:l[i]?=some d):ky l i=d.a:=by unfold ky;rw[h]
theorem E5{l:List Dg}{i:Nat}(h:i<l.length):l[i]?=some l[i]:=Ah h
theorem JC{l:List Dg}(hb:Bd l){i:Nat}(h:i<l.length):(l[i]).a<1000000000:=hb _ (Ci h)
theorem bs0(hn:n<1000000000){Ds:List Dg}(hb:Bd Ds)(hl:Ds.length=n){a m b:Nat}(h1:a<n)(h2:m≤b)(h3:b≤n):
  ∃r,LL Fs 0 [(0,some (.arr H.length g 0 n 5)),(1,some (N a)),(2,some (N m)),(3,some (N b)),(4,some fnc),(10,some (N m)),(11,some (N b))] (aS H T g Ds) (.exit 0) [(0,some (.arr H.length g 0 n 5)),(1,some (N a)),(2,some (N m)),(3,some (N b)),(4,some fnc),(10,some (N r))] (aS H T g Ds)∧
   m≤r∧r≤b∧(r=m∨ky Ds (r - 1) < ky Ds a)∧(r=b∨¬ky Ds r<ky Ds a):=by
 refine Un (f:=fun h=>ky Ds h<ky Ds a) (lo:=m) (hi:=b) (LEp:=fun i j r=>LL Fs 0 [(0,some (.arr H.length g 0 n 5)),(1,some (N a)),(2,some (N m)),(3,some (N b)),(4,some fnc),(10,some (N i)),(11,some (N j))] (aS H T g Ds) (.exit 0) [(0,some (.arr H.length g 0 n 5)),(1,some (N a)),(2,some (N m)),(3,some (N b)),(4,some fnc),(10,some (N r))] (aS H T g Ds)) ?_ ?_ ?_ _ m b (Ag _) (Ag _) h2 (Ag _) (.inl rfl) (.inl rfl)
 ·exact fun i j h=>X9 (by omega)
 ·intro i j r x1 x2 x3 hf hL;have y1:(i+j) / 2<Ds.length:=by omega
  have y2:a<Ds.length:=by omega
  rw[Ld (E5 y1),Ld (E5 y2)] at hf;exact Vb (by omega) (by omega) (by omega) (by omega) (by omega) (by omega) (E5 y1) h1 (E5 y2) (gP (JC hb y1) (JC hb y2)) (by omega) hL
 ·intro i j r x1 x2 x3 hf hL;have y1:(i+j) / 2<Ds.length:=by omega
  have y2:a<Ds.length:=by omega
  rw[Ld (E5 y1),Ld (E5 y2)] at hf;exact Va (by omega) (by omega) (by omega) (by omega) (by omega) (by omega) (E5 y1) h1 (E5 y2) (gP (JC hb y1) (JC hb y2)) (by omega) hL
theorem bs2(hn:n<1000000000){Ds:List Dg}(hb:Bd Ds)(hl:Ds.length=n){a m b:Nat}(h1:m<n)(h2:a≤m):
  ∃r,LL Fs 2 [(0,some (.arr H.length g 0 n 5)),(1,some (N a)),(2,some (N m)),(3,some (N b)),(4,some fnc),(14,some (N a)),(15,some (N m))] (aS H T g Ds) (.exit 4) [(0,some (.arr H.length g 0 n 5)),(1,some (N a)),(2,some (N m)),(3,some (N b)),(4,some fnc),(14,some (N r))] (aS H T g Ds)∧
   a≤r∧r≤m∧(r=a∨¬ky Ds m<ky Ds (r - 1))∧(r=m∨¬ ¬ky Ds m<ky Ds r):=by
 refine Un (f:=fun h=>¬ky Ds m<ky Ds h) (lo:=a) (hi:=m) (LEp:=fun i j r=>LL Fs 2 [(0,some (.arr H.length g 0 n 5)),(1,some (N a)),(2,some (N m)),(3,some (N b)),(4,some fnc),(14,some (N i)),(15,some (N j))] (aS H T g Ds) (.exit 4) [(0,some (.arr H.length g 0 n 5)),(1,some (N a)),(2,some (N m)),(3,some (N b)),(4,some fnc),(14,some (N r))] (aS H T g Ds)) ?_ ?_ ?_ _ a m (Ag _) (Ag _) h2 (Ag _) (.inl rfl) (.inl rfl)
 ·exact fun i j h=>X7 (by omega)
 ·intro i j r x1 x2 x3 hf hL;have y1:(i+j) / 2<Ds.length:=by omega
  have y2:m<Ds.length:=by omega
  rw[Ld (E5 y1),Ld (E5 y2)] at hf;exact U7 (by omega) (by omega) (by omega) (by omega) (by omega) h1 (E5 y2) (by omega) (E5 y1) (gP (JC hb y2) (JC hb y1)) (by omega) hL
 ·intro i j r x1 x2 x3 hf hL;have y1:(i+j) / 2<Ds.length:=by omega
  have y2:m<Ds.length:=by omega
  rw[Ld (E5 y1),Ld (E5 y2)] at hf;exact U8 (by omega) (by omega) (by omega) (by omega) (by omega) h1 (E5 y2) (by omega) (E5 y1) (gP (JC hb y2) (JC hb y1)) (by omega) hL
theorem bs4(hn:n<1000000000){Ds:List Dg}(hb:Bd Ds)(hl:Ds.length=n){a m b lo hi p:Nat}(hp:p=(a+b) / 2+m - 1)(h2:lo≤hi)(h3:hi≤n)(h4:hi≤p+1)(h5:p - lo<n):
  ∃r,LL Fs 4 [(0,some (.arr H.length g 0 n 5)),(1,some (N a)),(2,some (N m)),(3,some (N b)),(4,some fnc),(18,some (N ((a+b) / 2))),(19,some (N ((a+b) / 2+m))),(20,some (N lo)),(21,some (N hi)),(22,some (N p))] (aS H T g Ds) (.exit 8) [(0,some (.arr H.length g 0 n 5)),(1,some (N a)),(2,some (N m)),(3,some (N b)),(4,some fnc),(18,some (N ((a+b) / 2))),(19,some (N ((a+b) / 2+m))),(20,some (N r))] (aS H T g Ds)∧
   lo≤r∧r≤hi∧(r=lo∨¬ky Ds (p - (r - 1)) < ky Ds (r - 1))∧(r=hi∨¬ ¬ky Ds (p - r) < ky Ds r):=by
 subst hp;refine Un (f:=fun h=>¬ky Ds ((a+b) / 2+m - 1 - h) < ky Ds h) (lo:=lo) (hi:=hi) (LEp:=fun i j r=>LL Fs 4 [(0,some (.arr H.length g 0 n 5)),(1,some (N a)),(2,some (N m)),(3,some (N b)),(4,some fnc),(18,some (N ((a+b) / 2))),(19,some (N ((a+b) / 2+m))),(20,some (N i)),(21,some (N j)),(22,some (N ((a+b) / 2+m - 1)))] (aS H T g Ds) (.exit 8) [(0,some (.arr H.length g 0 n 5)),(1,some (N a)),(2,some (N m)),(3,some (N b)),(4,some fnc),(18,some (N ((a+b) / 2))),(19,some (N ((a+b) / 2+m))),(20,some (N r))] (aS H T g Ds)) ?_ ?_ ?_ _ lo hi (Ag _) (Ag _) h2 (Ag _) (.inl rfl) (.inl rfl)
 ·exact fun i j h=>X5 (by omega)
 ·intro i j r x1 x2 x3 hf hL;have y1:(i+j) / 2<Ds.length:=by omega
  have y2:(a+b) / 2+m - 1 - (i+j) / 2<Ds.length:=by omega
  rw[Ld (E5 y1),Ld (E5 y2)] at hf;exact UZ (by omega) (by omega) (by omega) (by omega) (by omega) (by omega) (by omega) (by omega) (E5 y2) (by omega) (E5 y1) (gP (JC hb y2) (JC hb y1)) (by omega) hL
 ·intro i j r x1 x2 x3 hf hL;have y1:(i+j) / 2<Ds.length:=by omega
  have y2:(a+b) / 2+m - 1 - (i+j) / 2<Ds.length:=by omega
  rw[Ld (E5 y1),Ld (E5 y2)] at hf;exact U0 (by omega) (by omega) (by omega) (by omega) (by omega) (by omega) (by omega) (by omega) (E5 y2) (by omega) (E5 y1) (gP (JC hb y2) (JC hb y1)) (by omega) hL
end
end Go.Abs.Z

namespace Go.Abs.Z
open Go.Proofs Go.RowKit
section
variable{H T:Sto}{g n:Nat}
theorem jF(hn:n<1000000000){a m b r:Nat}(x:Dg)(rest:List Dg):∀(B P:List Dg) {k:Nat},k=P.length→r=P.length+B.length+1→(P++x::(B++rest)).length=n→
  LL Fs 1 [(0,some (.arr H.length g 0 n 5)),(1,some (N a)),(2,some (N m)),(3,some (N b)),(4,some fnc),(10,some (N r)),(13,some (N k))] (aS H T g (P++x::(B++rest))) (.exit 2) [(0,some (.arr H.length g 0 n 5)),(1,some (N a)),(2,some (N m)),(3,some (N b)),(4,some fnc),(10,some (N r))] (aS H T g (P++(B++x::rest)))
 |[],P,k,hk,hr,hl=>by
  have hl':=hl;simp only[Af,Al,Bo] at hl' hr;exact X8 (by omega) (by omega) (by omega)
 |y::B,P,k,hk,hr,hl=>by
  have hl':=hl;simp only[Af,Al] at hl' hr
  have g1:(P++x::(y::B++rest))[k+1]?=some y:=by
   rw[show P++x::(y::B++rest)=(P++[x])++y::(B++rest) by simp];exact LU (by simp;omega)
  have g2:(P++x::(y::B++rest))[k]?=some x:=LU hk
  have s:((P++x::(y::B++rest)).set k y).set (k+1) x=(P++[y])++x::(B++rest):=by
   rw[Kw hk,show P++y::(y::B++rest)=(P++[y])++y::(B++rest) by simp,Kw (by simp;omega)]
  refine U9 (by omega) (by omega) (by omega) (by omega) (by omega) g1 (by omega) g2 (by omega) (by rw[CV];omega) ?_
  rw[s];have:=jF hn (a:=a) (m:=m) (b:=b) (r:=r) x rest B (P++[y]) (k:=k+1) (by simp;omega) (by simp;omega) (by simp;omega)
  simpa using this
theorem jE(hn:n<1000000000){a m b r:Nat}(x:Dg):∀(z:Nat) (B P rest:List Dg) {k:Nat},B.length=z→r=P.length→k=P.length+B.length→(P++B++x::rest).length=n→
  LL Fs 3 [(0,some (.arr H.length g 0 n 5)),(1,some (N a)),(2,some (N m)),(3,some (N b)),(4,some fnc),(14,some (N r)),(17,some (N k))] (aS H T g (P++B++x::rest)) (.exit 6) [(0,some (.arr H.length g 0 n 5)),(1,some (N a)),(2,some (N m)),(3,some (N b)),(4,some fnc),(14,some (N r))] (aS H T g (P++x::(B++rest)))
 |0,B,P,rest,k,hz,hr,hk,hl=>by
  have:=Aw.1 hz;subst this;rw[Az,Bj];exact X6 (by simp at hk;omega)
 |z+1,B,P,rest,k,hz,hr,hk,hl=>by
  obtain⟨B,y,rfl⟩:∃S y,B=S++[y]:=by
   rcases List.eq_nil_or_concat B with h | ⟨S,y,h⟩
   ·rw[h] at hz;cases hz
   ·exact⟨S,y,by simpa using h⟩
  have hl':=hl;simp only[Af,Al,Bo] at hl' hk hz
  have g1:(P++(B++[y])++x::rest)[k - 1]?=some y:=by
   rw[show P++(B++[y])++x::rest=(P++B)++y::(x::rest) by simp];exact LU (by simp;omega)
  have g2:(P++(B++[y])++x::rest)[k]?=some x:=LU (by simp;omega)
  have s:((P++(B++[y])++x::rest).set k y).set (k - 1) x=P++B++x::(y::rest):=by
   rw[Kw (by simp;omega),show P++(B++[y])++y::rest=(P++B)++y::(y::rest) by simp,Kw (by simp;omega)]
  refine U6 (by omega) (by omega) (by omega) (by omega) g1 (by omega) g2 (by omega) (by rw[CV];omega) ?_
  rw[s];have:=jE hn (a:=a) (m:=m) (b:=b) (r:=r) x z B P (y::rest) (k:=k - 1) (by omega) hr (by omega) (by simp;omega)
  simpa using this
theorem kN(hn:n<1000000000){a m b r lo hi:Nat}{Ds Ds1 Ds2 Ds3:List Dg}(ha:a<m)(hb:m<b)(hbn:b≤n)(c1:m - a≠1)(c2:b - m≠1)
  (elo:lo=if(a+b) / 2<m then(a+b) / 2+m - b else a) (ehi:hi=if(a+b) / 2<m then(a+b) / 2 else m)
  (L1:LL Fs 4 [(0,some (.arr H.length g 0 n 5)),(1,some (N a)),(2,some (N m)),(3,some (N b)),(4,some fnc),(18,some (N ((a+b) / 2))),(19,some (N ((a+b) / 2+m))),(20,some (N lo)),(21,some (N hi)),(22,some (N ((a+b) / 2+m - 1)))] (aS H T g Ds) (.exit 8) [(0,some (.arr H.length g 0 n 5)),(1,some (N a)),(2,some (N m)),(3,some (N b)),(4,some fnc),(18,some (N ((a+b) / 2))),(19,some (N ((a+b) / 2+m))),(20,some (N r))] (aS H T g Ds))
  (hr1:lo≤r) (hr2:r≤hi)
  (h1:r<m∧r<(a+b) / 2→E 281 [.arr H.length g 0 n 5,N r,N m,N ((a+b) / 2+m - r),fnc] (aS H T g Ds) (.tuple []) (aS H T g Ds1)) (h1':¬(r<m∧r<(a+b) / 2)→Ds1=Ds)
  (h2:a<r∧r<(a+b) / 2→E 269 [.arr H.length g 0 n 5,N a,N r,N ((a+b) / 2),fnc] (aS H T g Ds1) (.tuple []) (aS H T g Ds2)) (h2':¬(a<r∧r<(a+b) / 2)→Ds2=Ds1)
  (h3:r<m∧(a+b) / 2+m - r<b→E 269 [.arr H.length g 0 n 5,N ((a+b) / 2),N ((a+b) / 2+m - r),N b,fnc] (aS H T g Ds2) (.tuple []) (aS H T g Ds3)) (h3':¬(r<m∧(a+b) / 2+m - r<b)→Ds3=Ds2) :
  E 269 [.arr H.length g 0 n 5,N a,N m,N b,fnc] (aS H T g Ds) (.tuple []) (aS H T g Ds3):=by
 by_cases d0:(a+b) / 2<m
 ·rw[if_pos d0] at elo ehi;subst elo ehi;by_cases d1:r<(a+b) / 2
  ·have k1:=h1 ⟨by omega,d1⟩
   by_cases d2:a<r
   ·have k2:=h2 ⟨d2,d1⟩;by_cases d3:(a+b) / 2+m - r<b
    ·have k3:=h3 ⟨by omega,d3⟩
     exact AjM (by omega) (by omega) (by omega) (by omega) (by omega) (by omega) (by omega) (by omega) (by omega) (by omega) (by omega) (by omega) (by omega) L1 (by omega) (by omega) (by omega) k1 (by omega) (by omega) k2 (by omega) (by omega) k3
    ·have k3:=h3' (fun h=>d3 h.2);subst k3
     exact AjL (by omega) (by omega) (by omega) (by omega) (by omega) (by omega) (by omega) (by omega) (by omega) (by omega) (by omega) (by omega) (by omega) L1 (by omega) (by omega) (by omega) k1 (by omega) (by omega) k2 (by omega) (by omega)
   ·have k2:=h2' (fun h=>d2 h.1);subst k2
    by_cases d3:(a+b) / 2+m - r<b
    ·have k3:=h3 ⟨by omega,d3⟩
     exact AjK (by omega) (by omega) (by omega) (by omega) (by omega) (by omega) (by omega) (by omega) (by omega) (by omega) (by omega) (by omega) (by omega) L1 (by omega) (by omega) (by omega) k1 (by omega) (by omega) (by omega) k3
    ·have k3:=h3' (fun h=>d3 h.2);subst k3
     exact AjJ (by omega) (by omega) (by omega) (by omega) (by omega) (by omega) (by omega) (by omega) (by omega) (by omega) (by omega) (by omega) (by omega) L1 (by omega) (by omega) (by omega) k1 (by omega) (by omega) (by omega)
  ·have k1:=h1' (fun h=>d1 h.2);subst k1
   have k2:=h2' (fun h=>d1 h.2);subst k2
   have k3:=h3 ⟨by omega,by omega⟩
   exact AjP (by omega) (by omega) (by omega) (by omega) (by omega) (by omega) (by omega) (by omega) (by omega) (by omega) (by omega) (by omega) (by omega) L1 (by omega) (by omega) (by omega) (by omega) (by omega) (by omega) (by omega) k3
 ·rw[if_neg d0] at elo ehi;rw[elo,ehi] at L1;rw[elo] at hr1;rw[ehi] at hr2;clear elo ehi;by_cases d1:r<m
  ·have k1:=h1 ⟨by omega,by omega⟩
   by_cases d2:a<r
   ·have k2:=h2 ⟨d2,by omega⟩
    by_cases d3:(a+b) / 2+m - r<b
    ·have k3:=h3 ⟨by omega,d3⟩
     exact xk (by omega) (by omega) (by omega) (by omega) (by omega) (by omega) (by omega) (by omega) (by omega) (by omega) (by omega) (by omega) L1 (by omega) (by omega) (by omega) k1 (by omega) (by omega) k2 (by omega) (by omega) k3
    ·have k3:=h3' (fun h=>d3 h.2);subst k3
     exact xh (by omega) (by omega) (by omega) (by omega) (by omega) (by omega) (by omega) (by omega) (by omega) (by omega) (by omega) (by omega) L1 (by omega) (by omega) (by omega) k1 (by omega) (by omega) k2 (by omega) (by omega)
   ·have k2:=h2' (fun h=>d2 h.1);subst k2
    by_cases d3:(a+b) / 2+m - r<b
    ·have k3:=h3 ⟨by omega,d3⟩
     exact xg (by omega) (by omega) (by omega) (by omega) (by omega) (by omega) (by omega) (by omega) (by omega) (by omega) (by omega) (by omega) L1 (by omega) (by omega) (by omega) k1 (by omega) (by omega) (by omega) k3
    ·have k3:=h3' (fun h=>d3 h.2);subst k3
     exact xe (by omega) (by omega) (by omega) (by omega) (by omega) (by omega) (by omega) (by omega) (by omega) (by omega) (by omega) (by omega) L1 (by omega) (by omega) (by omega) k1 (by omega) (by omega) (by omega)
  ·have k1:=h1' (fun h=>d1 h.1);subst k1
   have k3:=h3' (fun h=>d1 h.1);subst k3
   by_cases d2:r<(a+b) / 2
   ·have k2:=h2 ⟨by omega,d2⟩
    exact AjO (by omega) (by omega) (by omega) (by omega) (by omega) (by omega) (by omega) (by omega) (by omega) (by omega) (by omega) (by omega) L1 (by omega) (by omega) (by omega) (by omega) k2 (by omega)
   ·have k2:=h2' (fun h=>d2 h.2);subst k2
    exact AjN (by omega) (by omega) (by omega) (by omega) (by omega) (by omega) (by omega) (by omega) (by omega) (by omega) (by omega) (by omega) L1 (by omega) (by omega) (by omega) (by omega) (by omega)
theorem jA{l:List Dg}{u:Dg}{v:Nat}(h:Asc (l++[u]))(hu:u.a≤v):∀x∈l++[u],x.a≤v:=fun x hx=>by
 rcases Cm.1 hx with hx | hx
 ·exact Bf ((JM.1 h).2.2 x hx u (by simp)) hu
 ·rw[CK] at hx;subst hx;exact hu
theorem df{l:List Dg}{u:Dg}{v:Nat}(h:Asc (u::l))(hu:v≤u.a):∀x∈u::l,v≤x.a:=fun x hx=>by
 rcases AY.1 hx with rfl | hx
 ·exact hu
 ·exact Bf hu ((BR.1 h).1 x hx)
theorem VX{P Q:List Dg}{x:Dg}{i:Nat}(hi:i=P.length):ky (P++x::Q) i=x.a:=Ld (LU hi)
theorem iN{l:List Dg}(h:0<l.length):∃S y,l=S++[y]:=by
 rcases List.eq_nil_or_concat l with e | ⟨S,y,e⟩
 ·rw[e] at h;cases h
 ·exact⟨S,y,by simpa using e⟩
theorem Uf{P A1 M B2 Q:List Dg}(h1:Asc A1)(h2:Asc B2){i j:Nat}(hi:i+1=P.length+A1.length)(hj:j=P.length+A1.length+M.length)
  (h:A1=[]∨B2=[]∨ky (P++A1++M++B2++Q) i≤ky (P++A1++M++B2++Q) j):∀x∈A1,∀y∈B2,x.a≤y.a:=by
 rcases h with rfl | rfl | h
 ·intro x hx;cases hx
 ·intro x _ y hy;cases hy
 ·cases hB:B2 with
  |nil=>intro x _ y hy;cases hy
  |cons v B2'=>
   rcases Em A1.length with h0 | h0
   ·rw[Aw.1 h0];intro x hx;cases hx
   ·obtain⟨S,u,e⟩:=iN h0;subst e hB;simp only[Af,Al,Bo] at hi hj
    rw[show P++(S++[u])++M++(v::B2')++Q=(P++S)++u::(M++v::(B2'++Q)) by simp,VX (by simp;omega),
     show(P++S)++u::(M++v::(B2'++Q))=(P++S++u::M)++v::(B2'++Q) by simp,VX (by simp;omega)] at h
    exact fun x hx y hy=>Bf (jA h1 h x hx) (df h2 (Ag _) y hy)
theorem Ug{P A2 M B1 Q:List Dg}(h1:Asc A2)(h2:Asc B1){i j:Nat}(hi:i=P.length)(hj:j+1=P.length+A2.length+M.length+B1.length)
  (h:A2=[]∨B1=[]∨ky (P++A2++M++B1++Q) j<ky (P++A2++M++B1++Q) i):∀x∈A2,∀y∈B1,y.a<x.a:=by
 rcases h with rfl | rfl | h
 ·intro x hx;cases hx
 ·intro x _ y hy;cases hy
 ·cases hA:A2 with
  |nil=>intro x hx;cases hx
  |cons v A2'=>
   rcases Em B1.length with h0 | h0
   ·rw[Aw.1 h0];intro x _ y hy;cases hy
   ·obtain⟨S,u,e⟩:=iN h0;subst e hA;simp only[Af,Al,Bo] at hi hj
    rw[show P++(v::A2')++M++(S++[u])++Q=P++v::(A2'++M++S++u::Q) by simp,VX hi,
     show P++v::(A2'++M++S++u::Q)=(P++v::A2'++M++S)++u::Q by simp,VX (by simp;omega)] at h
    exact fun x hx y hy=>Nat.lt_of_le_of_lt (jA h2 (Ag _) y hy) (df (v:=u.a+1) h1 h x hx)
end
end Go.Abs.Z
