/- A part of the proof: G8 GL GC GN GD G5 D1 W1 D2 D8. -/
import Derived.Test.YtgkkkgbknfhbaaaGreatDoorKau
import Derived.KernelRfl

set_option linter.all false
namespace Go.Abs
open Go.RowKit
section
variable(pur:FuncId->Bool)(R:Nat->Caller)
def bA(c:De)(ff:FF)(d:Sto)(e:CE)(a:FF)(b:Sto):Prop:=∃N,∀n,N<=n->∀m,Gd pur (R n) m c ff d=some (e,a,b)
def OpX(o:AOp)(ff:FF)(c:Sto)(a:FF)(b:Sto):Prop:=∃N,∀n,N<=n->Jk pur (R n) o ff c=some (a,b)
end
def KH:De->Bool
 |.seq a b=>KH a&&KH b
 |.cond _ a b=>KH a&&KH b
 |.block _ c=>KH c
 |.loop _ _=>false
 |_=>true
section
variable{pur:FuncId->Bool}{R:Nat->Caller}{ff Z:FF}{σ σ':Sto}{Y aa:Tape}{q q':Prop}{e:CE}
def Yc{call:Caller}{o:AOp}(d:Kz pur Ms o ff σ=some (Z,σ')):Kz pur call o ff σ=some (Z,σ'):=by
 obtain⟨vs,g,b,a,f,c⟩:=bZ d;rw[NF a (SL f)];exact c
def xP{call:Caller}{o:AOp}(a:Jk pur Ms o ff σ=some (Z,σ')):Jk pur call o ff σ=some (Z,σ'):=by
 cases b:o.guard with
 |none=>rw[OQ b] at a ⊢;exact Yc a
 |some g=>
  cases c:H9 (FQ ff g.1) g.2 with
  |none=>
   unfold Jk at a;rw[b] at a;dsimp only at a;rw[c] at a;cases a
  |some d=>
   rw[HZ b c] at a ⊢;cases d with
   |true=>exact Yc a
   |false=>exact a
def zx{o:AOp}{a:Ans}{x:TO}(h:Kr pur R o ff σ Y q a=some x):x.q->OpX pur R o ff σ x.ff x.σ:=by
 cases a with
 |br b=>cases h
 |loop ls e f s=>cases h
 |res p u=>
  cases c:o.guard with
  |some g=>simp only[Kr,c] at h;cases h
  |none=>
   simp only[Kr,c] at h;cases i:EF ff o.args with
   |none=>rw[i] at h;cases h
   |some vs=>
    rw[i] at h;obtain⟨Z,σ',j,rfl⟩:=JH h;intro k;obtain⟨N,l⟩:=opW k.1;refine⟨N,λn m=>?_⟩
    rw[OQ c,NF i (l n m)];exact j
 |grd d=>
  cases c:o.guard with
  |none=>simp only[Kr,c] at h;cases h
  |some g=>
   simp only[Kr,c] at h;obtain⟨Z,σ',j,rfl⟩:=JH h;intro k;refine⟨0,λn _=>?_⟩
   rw[HZ c k.1];cases d with
   |true=>exact Yc j
   |false=>exact j
 |grdr p u=>
  cases c:o.guard with
  |none=>simp only[Kr,c] at h;cases h
  |some g=>
   simp only[Kr,c] at h;cases i:EF ff o.args with
   |none=>rw[i] at h;cases h
   |some vs=>
    rw[i] at h;obtain⟨Z,σ',j,rfl⟩:=JH h;intro k;obtain⟨N,l⟩:=opW k.1;refine⟨N,λn m=>?_⟩
    rw[HZ c k.2.1,cond_true,NF i (l n m)];exact j
def Bj7{o:AOp}:∀{x:TO},tOp pur R o ff σ Y q=some x->x.q->OpX pur R o ff σ x.ff x.σ:=by
 unfold tOp;refine LP (λr=>∀{x:TO},r=some x->x.q->OpX pur R o ff σ x.ff x.σ) (λt {x} h=>?_) (λt a {x} h=>zx h)
 obtain⟨Z,σ',b,rfl⟩:=JH h;exact λ_=>⟨0,λn _=>xP b⟩
def tX:∀(a:List AOp) {ff:FF} {σ:Sto} {Y:Tape} {q:Prop} {x:TO},tY pur R a ff σ Y q=some x->x.q->bA pur R (.region a) ff σ x.e x.ff x.σ
 |[],ff,σ,Y,q,x,h=>by cases h;exact λ_=>⟨0,λn _ m=>rfl⟩
 |o::a,ff,σ,Y,q,x,h=>by
  have k:UH (tOp pur R o ff σ Y q) (tY pur R a)=some x:=h;obtain⟨y,f,r⟩:=NS k;have l:=(WG f).1;rcases r with⟨_,g⟩ | ⟨c,_⟩
  ·intro d;obtain⟨s,j⟩:=Bj7 f ((OA a g).1 d);obtain⟨i,p⟩:=tX a g d;refine⟨max s i,λn t m=>?_⟩
   show ou pur (R n) (o::a) ff σ=_;rw[WV,j n am];exact p n am m
  ·exact absurd l c
def AJV:∀(c:De),KH c=true->∀{ff:FF} {σ:Sto} {Y:Tape} {q:Prop} {x:TO},Io pur R c ff σ Y q=some x->x.q->bA pur R c ff σ x.e x.ff x.σ:=by
 intro c
 induction c with
 |skip=>intro _ ff σ Y q x h;cases h;exact λ_=>⟨0,λn _ m=>rfl⟩
 |region ops=>intro _ ff σ Y q x h;exact tX ops h
 |exit i=>intro _ ff σ Y q x h;cases h;exact λ_=>⟨0,λn _ m=>rfl⟩
 |ret=>intro _ ff σ Y q x h;cases h;exact λ_=>⟨0,λn _ m=>rfl⟩
 |loop k c _=>intro h;cases h
 |seq a b v C=>
  intro u ff σ Y q x h;rw[KH,Aj] at u;have p:UH (Io pur R a ff σ Y q) (Io pur R b)=some x:=h;obtain⟨y,Q,X⟩:=NS p;have z:∀n m,Gd pur (R n) m (.seq a b) ff σ=Option.rec (motive:=λ_=>RX) none (λr=>cond (Hy r.1) (Gd pur (R n) m b r.2.1 r.2.2) (some r)) (Gd pur (R n) m a ff σ):=λ_ _=>rfl
  rcases X with⟨S,P⟩ | ⟨O,rfl⟩
  ·intro g;obtain⟨K,I⟩:=v u.1 Q ((GA b P).1 g);obtain⟨U,T⟩:=C u.2 P g;rw[S] at I;refine⟨max K U,λn d m=>?_⟩
   rw[z,I n am m];exact T n am m
  ·intro g;obtain⟨K,I⟩:=v u.1 Q g;refine⟨K,λn d m=>?_⟩
   rw[z,I n d m];obtain⟨e,f,s,t,A⟩:=y;cases e with
   |normal=>exact absurd rfl O
   |exit i=>rfl
   |ret=>rfl
 |cond c a b v C=>
  intro u ff σ Y q x h;rw[KH,Aj] at u;have o:∀n m,Gd pur (R n) m (.cond c a b) ff σ=gQ (EF ff [c]) (Gd pur (R n) m a ff σ) (Gd pur (R n) m b ff σ):=λ_ _=>rfl
  have D:∀(j:Bool) (t:Tape) (A:Prop),EF ff [c]=some [.bool j]->cond j (Io pur R a ff σ t A) (Io pur R b ff σ t A)=some x->x.q->bA pur R (.cond c a b) ff σ x.e x.ff x.σ:=by
   intro j t A G g l;cases j with
   |true=>
    obtain⟨N,H⟩:=v u.1 g l;refine⟨N,λn d m=>?_⟩
    rw[o,G];exact H n d m
   |false=>
    obtain⟨N,H⟩:=C u.2 g l;refine⟨N,λn d m=>?_⟩
    rw[o,G];exact H n d m
  have p:bH c (Io pur R a) (Io pur R b) ff σ Y q=some x:=h
  revert p
  unfold bH;refine LP (λr=>r=some x->x.q->bA pur R (.cond c a b) ff σ x.e x.ff x.σ) (λt g=>?_) (λt W g=>?_)
  ·split at g
   ·rename_i j G;exact D j t q G g
   ·cases g
  ·cases W with
   |br j=>
    have B:cond j (Io pur R a ff σ t (EF ff [c]=some [.bool j]/\q)) (Io pur R b ff σ t (EF ff [c]=some [.bool j]/\q))=some x:=g
    have l:x.q->(EF ff [c]=some [.bool j]/\q):=by
     cases j with
     |true=>exact(GA a B).1
     |false=>exact(GA b B).1
    exact λE=>D j t _ (l E).1 B E
   |_=>cases g
 |block id c V=>
  intro u ff σ Y q x h;have L:KH c=true:=u;have p:iW id (Io pur R c ff σ Y q)=some x:=h;have J:∀n m,Gd pur (R n) m (.block id c) ff σ=Option.rec (motive:=λ_=>RX) none (λr=>CE.rec (motive:=λ_=>RX) (some r) (λi=>cond (Nat.beq i id) (some (.normal,r.2)) (some r)) (some r) r.1) (Gd pur (R n) m c ff σ):=λ_ _=>rfl
  cases M:Io pur R c ff σ Y q with
  |none=>rw[M] at p;cases p
  |some y=>
   rw[M] at p;have F:=V L M;obtain⟨e,f,s,t,A⟩:=y;cases e with
   |normal=>
    cases p;intro l;obtain⟨N,H⟩:=F l;exact⟨N,λn d m=>by rw[J,H n d m]⟩
   |ret=>
    cases p;intro l;obtain⟨N,H⟩:=F l;exact⟨N,λn d m=>by rw[J,H n d m]⟩
   |exit i=>
    have w:cond (Nat.beq i id) (some (⟨.normal,f,s,t,A⟩:TO)) (some ⟨.exit i,f,s,t,A⟩)=some x:=p;cases hi:Nat.beq i id with
    |true=>
     rw[hi] at w;cases w;intro l;obtain⟨N,H⟩:=F l;exact⟨N,λn d m=>by rw[J,H n d m];dsimp only;rw[hi];rfl⟩
    |false=>
     rw[hi] at w;cases w;intro l;obtain⟨N,H⟩:=F l;exact⟨N,λn d m=>by rw[J,H n d m];dsimp only;rw[hi];rfl⟩
end
end Go.Abs

namespace Go.Abs.Z
open Go.Proofs Go.RowKit
noncomputable def exG(ac:De)(A:Frm)(σ:Sto)(tp:Tape):Option (CE×Frm×Sto×Prop):=
 cond (GZ A.length ac&&KH ac) ((Io pur run ac (ofF A 0) σ tp True).map λx=>(x.e,toF x.ff A.length,x.σ,x.q)) none
def FEx(ac:De)(A:Frm)(σ:Sto)(e:CE)(A':Frm)(σ':Sto):Prop:=∃N,∀n,N<=n->∀m,Va pur (run n) m ac A σ=some (e,A',σ')
def OT{ac:De}{A A':Frm}{σ σ':Sto}{e:CE}(l:List Stp)(h:exG ac A σ (Ko l)=some (e,A',σ',qOf l True):=by kernel_rfl):FEx ac A σ e A' σ':=by
 have hq:=Mq l trivial
 revert hq h
 generalize qOf l True=q;generalize Ko l=tp;intro h hq;unfold exG at h;cases hb:(GZ A.length ac&&KH ac) with
 |false=>rw[hb] at h;cases h
 |true=>
  rw[hb] at h;rw[Aj] at hb;obtain⟨x,hx,he⟩:=Ac.1 h;cases he;obtain⟨N,H⟩:=AJV ac hb.2 hx hq;refine⟨N,λn hn m=>?_⟩
  unfold Va;rw[hb.1,H n hn m];rfl
def nn(k:Nat):Frm:=List.replicate k none
def R20:Rn 119 a119:=rn
def r20(T:Tr):E 119 [T.pv] [] (.func 172 [] [.vptr T.pv]) []:=rule R20 [sp 0 (BQ T)]
end Go.Abs.Z

namespace Go.Abs.Z
mutual
def Tr.Tm:∀T:Tr,T.pv.EO=true
 |.mk k t a e n ks=>by
  have h:=Tr.Qv ks;cases n
  ·simp[Tr.pv,PV.EO,PV.EY,h]
  ·simp[Tr.pv,PV.EO,PV.EY]
def Tr.Qv:∀l:List Tr,PV.EY (Tr.pvs l)=true
 |[]=>rfl
 |T::l=>by simp[Tr.pvs,PV.EY,Tr.Tm T,Tr.Qv l]
end
end Go.Abs.Z

namespace Go.Abs.Z
open Go.Proofs Go.RowKit
def QE{p:PV}(h:p.EO=true):Ju p=false:=by simp[Ju,h]
def ZB{σ:Sto}(hσ:σ.all PV.EY=true)(A:Frm)(hA:A.all (λv=>match v with | some p=>p.EO | none=>true)=true):quiet A σ=true:=by
 unfold quiet;rw[Aj];exact⟨hA,hσ⟩
def wN{call:Caller}{m:Nat}{f:LFn}{A X A2 A3:Frm}{σ σ2 σ3:Sto}{gf:FuncId}{caps:List PV}{xs:List (List PV)}{e:CE}{r:PV×Sto}
  (hg:A.get f.g=some (.func gf [] caps)) (hi:itr gf caps=some xs) (hX:J4 f.Lv A=X)
  (hc:quiet (Gm X (EJ f.L A)) σ=true/\A.length=f.L.length/\f.Lv.length=f.L.length/\f.Lr.length=f.L.length/\caps.all PV.flat=true/\xs.all (λx=>x.length==f.nps)=true)
  (h1:J5 pur call m f.aca f.ac f.La f.L X f.ds xs (KP X (EJ f.L A)) σ=some (A2,σ2)) (h2:Va pur call m f.post A2 σ2=some (e,A3,σ3))
  (h3:(e=.normal\/e=.ret)/\quiet (Gm X (EJ f.Lr A3)) σ3=true/\A3.length=f.Lr.length) (h4:gL f (Gm X (EJ f.Lr A3)) σ3=some r):mE pur call itr m f A σ=some r:=by
 subst hX;unfold mE;rw[hg];dsimp only;rw[hi];dsimp only;rw[if_pos hc,h1];dsimp only;rw[h2];dsimp only;rw[if_pos h3,h4]
end Go.Abs.Z

namespace Go.Abs.Z
open Go.Proofs Go.RowKit
structure Tk where
 k:Nat
 f:Nat
 a:Nat
 e:Nat
def Tk.pv(t:Tk):PV:=.agg [N t.k,N t.f,N t.a,N t.e]
structure Dg where
 c:Nat
 a:Nat
 e:Nat
 t:List UInt8
def Dg.pv(d:Dg):PV:=.agg [N d.c,N d.a,N d.e,.str d.t,.nils]
def pc(s:List UInt8)(ls:List Tk)(k l:Nat)(wr:PV)(b:Int):List PV:=[.str s,.slice true 4 (ls.map Tk.pv),N k,N l,wr,I b]
section
variable{s:List UInt8}{ls:List Tk}{k l:Nat}{wr:PV}{b:Int}{T:Sto}
def kX{v x:PV}{off n:Nat}{ag:Bool}(h:sub v off n ag=some x):Sz v off n ag=some x:=by unfold Sz;rw[h]
def kZ{o:Nat}{v:PV}{cs:List PV}(d:wr.isSelf=false)(a:v.cells.length=1/\v.okc=true/\v.ones=true)(f:o+1<=6)(h:Fw (pc s ls k l wr b) o v.Ag.cells=cs):
  Bt pur run (.w (.st 1)) [.ref 0 o,v] (pc s ls k l wr b::T) [] (cs::T):=by
 have e:(pc s ls k l wr b).any PV.isSelf=false:=by
  show(false||(false||(false||(false||(wr.isSelf||(false||false))))))=false
  rw[d];rfl
 refine⟨0,λn _=>?_⟩
 have c:v.cells.length=1/\o+1<=(pc s ls k l wr b).length/\v.okc=true/\v.ones=true/\(pc s ls k l wr b).any PV.isSelf=false:=⟨a.1,f,a.2.1,a.2.2,e⟩;show(if _ then _ else _)=_
 rw[if_pos c,h];rfl
def stK(a:wr.isSelf=false){j:Nat}:Bt pur run (.w (.st 1)) [.ref 0 2,N j] (pc s ls k l wr b::T) [] (pc s ls j l wr b::T):=kZ a ⟨rfl,rfl,rfl⟩ am rfl
def stL(a:wr.isSelf=false){j:Nat}:Bt pur run (.w (.st 1)) [.ref 0 3,N j] (pc s ls k l wr b::T) [] (pc s ls k j wr b::T):=kZ a ⟨rfl,rfl,rfl⟩ am rfl
def stB(a:wr.isSelf=false){z:Int}:Bt pur run (.w (.st 1)) [.ref 0 5,I z] (pc s ls k l wr b::T) [] (pc s ls k l wr z::T):=kZ a ⟨rfl,rfl,rfl⟩ am rfl
def stW(c:wr.isSelf=false){v:PV}(a:v.cells.length=1/\v.okc=true/\v.ones=true/\v.Ag.cells=[v]:=by exact⟨rfl,rfl,rfl,rfl⟩):Bt pur run (.w (.st 1)) [.ref 0 4,v] (pc s ls k l wr b::T) [] (pc s ls k l v b::T):=
 kZ c ⟨a.1,a.2.1,a.2.2.1⟩ am (by rw[a.2.2.2];rfl)
def UV{X:List PV}{o:Bool}{d:PV}(f:(d.Ag,d.ones,d.okc)=(d,true,true)):Bt pur run (.w (.Gj 5)) [.nils,.slice o 5 [d]] (X::T) [some (.arr (T.length+1) 0 0 1 5)] (X::(T++[[.arrv 0 5 [d]]])):=by
 obtain⟨c,a⟩:=Prod.mk.inj f;obtain⟨a,g⟩:=Prod.mk.inj a;refine⟨0,λn _=>?_⟩
 have e:I7 5 (X::T) (.slice o 5 [d])=some [d]:=by simp[I7]
 show(match I7 5 (X::T) (.slice o 5 [d]) with | some xs=>Gj 5 .nils xs (X::T) | none=>none)=_
 rw[e];simp only[Gj];rw[if_neg (by simp),if_pos ⟨by simp[Bo],by simp[a],by simp[g]⟩]
 simp[c]
def UW{X:List PV}{B:Sto}{g n:Nat}{Ds:List PV}{o:Bool}{d:PV}(j:(d.Ag,d.ones,d.okc)=(d,true,true))(f:Ds.length=n)(h:n+1<=Bo):
  Bt pur run (.w (.Gj 5)) [.arr (B.length+1) g 0 n 5,.slice o 5 [d]] (X::(B++[[.arrv g 5 Ds]])) [some (.arr (B.length+1) (g+1) 0 (n+1) 5)] (X::(B++[[.arrv (g+1) 5 (Ds++[d])]])):=by
 subst f;obtain⟨c,a⟩:=Prod.mk.inj j;obtain⟨a,m⟩:=Prod.mk.inj a
 have i:JM (X::(B++[[.arrv g 5 Ds]])) (B.length+1) g 0 Ds.length 5=some Ds:=by
  unfold JM;simp[Jl]
 refine⟨0,λn _=>?_⟩
 have e:I7 5 (X::(B++[[.arrv g 5 Ds]])) (.slice o 5 [d])=some [d]:=by simp[I7]
 show(match I7 5 (X::(B++[[PV.arrv g 5 Ds]])) (.slice o 5 [d]) with | some xs=>Gj 5 (.arr (B.length+1) g 0 Ds.length 5) xs (X::(B++[[PV.arrv g 5 Ds]])) | none=>none)=_
 rw[e];simp only[Gj,if_true,i];rw[if_neg (by simp),if_pos ⟨h,by simp[a],by simp[m]⟩]
 simp[c]
end
def X0(j m:Nat)(h:m<=j)(a:j<2000000000):AQ (.bin .sub 0) [.int .i64 (j:Nat),.int .i64 (m:Nat)]=some [some (.int .i64 ((j - m:Nat):Int))]:=by
 apply XZ;simp[IntKind.wrap,IntKind.bits,IntKind.signed];omega
def mr(a b:Nat):AQ .min [.int .i64 (a:Nat),.int .i64 (b:Nat)]=some [some (.int .i64 ((min a b:Nat):Int))]:=by
 show some [some (PV.int .i64 (if(b:Int) < a then(b:Int) else a))]=_
 congr 4
 split<;>omega
def BZ9(a b:Int):AQ .min [.int .i64 a,.int .i64 b]=some [some (.int .i64 (min a b))]:=by
 show some [some (PV.int .i64 (if b<a then b else a))]=_
 have:(if b<a then b else a)=min a b:=by rw[Int.min_def];split<;>split<;>omega
 rw[this]
def Cs{o:Bool}{s:Nat}{ts:List Tk}{t:Tk}(j:Nat)(h:ts[j]?=some t):AQ (.idx s) [.slice o s (ts.map Tk.pv),.int .i64 (j:Nat)]=some [some (.vptr t.pv)]:=Nb _ _ _ _ _ (by rw[Al,h];rfl)
def Ka{o:Bool}{s:Nat}{ts:List Dg}{t:Dg}(j:Nat)(h:ts[j]?=some t):AQ (.idx s) [.slice o s (ts.map Dg.pv),.int .i64 (j:Nat)]=some [some (.vptr t.pv)]:=Nb _ _ _ _ _ (by rw[Al,h];rfl)
def ED(o:Bool)(s:Nat)(ts:List Tk):AQ (.len false) [.slice o s (ts.map Tk.pv)]=some [some (.int .i64 (ts.length:Nat))]:=by
 show some [some (PV.int .i64 ((ts.map Tk.pv).length:Nat))]=_;rw[Ap]
def Gq(o:Bool)(s:Nat)(ts:List Dg):AQ (.len false) [.slice o s (ts.map Dg.pv)]=some [some (.int .i64 (ts.length:Nat))]:=by
 show some [some (PV.int .i64 ((ts.map Dg.pv).length:Nat))]=_;rw[Ap]
def EQ(T:Tr):AQ (.ldl 0 5 true) [T.pv]=some [some T.pv]:=by
 have a:=T.mP;rw[Tr.He]
 have:sub (nd T.kind T.text T.st T.en T.kp) 0 5 true=some (nd T.kind T.text T.st T.en T.kp):=by
  show(if _ then _ else _)=_
  rw[if_pos]
  ·rfl
  ·refine⟨Ai 5,?_⟩
   show(true&&(true&&(true&&(true&&(T.kp.flat&&true)))))=true;rw[a.2.2.2];rfl
 show(Sz (nd T.kind T.text T.st T.en T.kp) 0 5 true).map _=_;rw[kX this,AJ,W9 a]
def M7(ts:List Tr)(U:Tr):Tr.pvs (ts++[U])=Tr.pvs ts++[U.pv]:=by rw[Tr.Du,Tr.Du,BV];rfl
def Ke{ts:List Tr}(o:Bool)(U:Tr)(h:ts.length+1<=Bo):AQ (.app 5) [.slice true 5 (Tr.pvs ts),.slice o 5 [U.pv]]=some [some (.slice true 5 (Tr.pvs (ts++[U]))),some (.slice false 5 (Tr.pvs ts))]:=by
 rw[M7];exact NV (by rw[Tr.Du,Ap];exact h) rfl (by simp)
def nE{ts:List Tk}(o:Bool)(t:Tk)(h:ts.length+1<=Bo):AQ (.app 4) [.slice true 4 (ts.map Tk.pv),.slice o 4 [t.pv]]=some [some (.slice true 4 ((ts++[t]).map Tk.pv)),some (.slice false 4 (ts.map Tk.pv))]:=by
 rw[BV];exact NV (by rw[Ap];exact h) rfl rfl
def Lf{ts:List Dg}(o:Bool)(t:Dg)(h:ts.length+1<=Bo):AQ (.app 5) [.slice true 5 (ts.map Dg.pv),.slice o 5 [t.pv]]=some [some (.slice true 5 ((ts++[t]).map Dg.pv)),some (.slice false 5 (ts.map Dg.pv))]:=by
 rw[BV];exact NV (by rw[Ap];exact h) rfl rfl
def jk(a b:Nat):(PV.ref a b).Ag=.ref a b:=rfl
def uW(a b:Nat):(PV.ref a b).free=true:=rfl
def jR(f:FuncId)(x y:List PV):(PV.func f x y).Ag=.func f x y:=rfl
def xI(f:FuncId)(x y:List PV):(PV.func f x y).free=true:=rfl
def nM(t:Tk):t.pv.Ag=t.pv:=rfl
def zt(t:Tk):t.pv.free=true:=rfl
def zu(t:Tk):t.pv.flat=true:=rfl
def zq(t:Tk):t.pv.ones=true:=rfl
def wy:PV.nils.one=true:=rfl
def AYZ(T:Tr):T.pv.okc=true:=T.Tj
def AxS(l:List PV):(PV.agg l).okc=true:=rfl
def AU0(cs:List PV)(n:Nat):LU (.agg cs) (some n)=((true&&cs.length==n)&&cs.all PV.flat):=rfl
def vU(z:Nat)(es:List PV):(Ci z es).one=true:=by cases es<;>rfl
def AxR(z:Nat)(es:List PV):(BI z es).one=true:=by cases es<;>rfl
attribute [simp] AU0 vU AxR
attribute [simp] jk uW nM zt zu zq wy jR xI AYZ AxS
def TM{d:Nat}{a b c e:PV}{z:Nat}{es:List PV}:AQ (.ldfo d) [.lref d 4,.agg [a,b,c,e,BI z es]]=some [some (BI z es),some (.agg [a,b,c,e,Ci z es])]:=by
 show(if d=d then _ else _)=_
 rw[if_pos rfl];cases es<;>rfl
def SB{d:Nat}{a b c e o:PV}{z:Nat}{es:List PV}:AQ (.stfo d) [.lref d 4,.agg [a,b,c,e,o],BI z es]=some [some (.agg [a,b,c,e,BI z es]),some (Ci z es)]:=by
 show(if d=d then _ else _)=_
 rw[if_pos rfl];cases es<;>rfl
def Az0{a b c e:PV}{z:Nat}{es:List PV}(h:a.flat=true/\b.flat=true/\c.flat=true/\e.flat=true/\a.Ck=a/\b.Ck=b/\c.Ck=c/\e.Ck=e:=by exact⟨rfl,rfl,rfl,rfl,rfl,rfl,rfl,rfl⟩):
  AQ (.ldl 0 5 true) [.agg [a,b,c,e,BI z es]]=some [some (.agg [a,b,c,e,Ci z es])]:=by
 obtain⟨d,m,g,i,l,k,n,j⟩:=h
 have f:sub (.agg [a,b,c,e,BI z es]) 0 5 true=some (.agg [a,b,c,e,BI z es]):=by
  show(if _ then _ else _)=_
  rw[if_pos]
  ·rfl
  ·refine⟨Ai 5,?_⟩
   show(a.flat&&(b.flat&&(c.flat&&(e.flat&&((BI z es).flat&&true)))))=true;rw[d,m,g,i,iA];rfl
 show(Sz (.agg [a,b,c,e,BI z es]) 0 5 true).map _=_;rw[kX f];show some [some (PV.agg [a.Ck,b.Ck,c.Ck,e.Ck,(BI z es).Ck])]=_;rw[l,k,n,j,fe]
def oW{f:FuncId}{xs:List PV}{c a:Sto}{r:PV}(h:E f xs c r a)(d:pur f=false:=by rfl)(b:xs.map PV.Ag=xs/\xs.all PV.free=true/\r.Ag=r:=by first | exact⟨rfl,rfl,rfl⟩ | simp):Bt pur run (.w (.call f)) xs c [some r] a:=FR h d b.1 b.2.1 b.2.2
abbrev r0:PV:=.ref 0 0
abbrev Z1:PV:=.agg [I 0,.str [],I 0,I 0,.nils]
abbrev Hp(x:Sto)(n m:Nat):Prop:=E 269 [r0] x (.tuple [N n,N m]) x
abbrev Hb(f:FuncId)(w:List UInt8)(x:Sto)(b:Bool)(y:Sto):Prop:=E f [r0,.str w] x (.bool b) y
abbrev Hq(f:FuncId)(w:List UInt8)(x:Sto)(y:Sto):Prop:=E f [r0,.str w] x (.tuple []) y
abbrev Hw(a:List PV)(x:Sto)(b:Bool):Prop:=E 234 [r0,.slice false 1 a] x (.bool b) x
abbrev Hi(n:Int)(x:Sto)(b:Bool):Prop:=E 233 [r0,I n] x (.bool b) x
abbrev Hs(f:FuncId)(x:Sto)(w:List UInt8)(y:Sto):Prop:=E f [r0] x (.str w) y
abbrev Ht(f:FuncId)(x:Sto)(U:Tr)(y:Sto):Prop:=E f [r0] x U.pv y
abbrev Hm(k:Int)(w:List UInt8)(j l:Nat)(ks:PV)(x:Sto)(U:Tr):Prop:=E 274 [r0,I k,.str w,N j,N l,ks] x U.pv x
abbrev Hk(x:Sto)(n:Nat):Prop:=Dq (.ld 1 false) [.ref 0 2] x=some [some (N n)]
abbrev Hc(x:Sto)(n:Nat):Prop:=E 37 [r0] x (N n) x
abbrev Hx(n:Int)(x:Sto)(U:Tr)(y:Sto):Prop:=E 53 [r0,I n] x U.pv y
abbrev Hn(j:Nat)(k:Int)(w:List UInt8)(ks:PV)(x:Sto)(U:Tr):Prop:=E 43 [r0,N j,I k,.str w,ks] x U.pv x
def wn{j:Nat}{k:Int}{w:List UInt8}{xs:List PV}{q:Sto}{U:Tr}(h:Hn j k w (.slice false 5 xs) q U):Bt pur run (.w (.call 43)) [r0,N j,I k,.str w,.slice true 5 xs] q [some U.pv] q:=FR h (by rfl) (by rfl) (by rfl) (by simp)
def bz0(q:Sto):Bt pur run (.p (.bsl 5)) [] q [some (.slice true 5 [])] q:=GK QU
def bz1(q:Sto)(U:Tr):Bt pur run (.p (.bsl 5)) [U.pv] q [some (.slice true 5 [U.pv])] q:=GK QU
def bz2(q:Sto)(U V:Tr):Bt pur run (.p (.bsl 5)) [U.pv,V.pv] q [some (.slice true 5 [U.pv,V.pv])] q:=GK QU
def bz3(q:Sto)(U V W:Tr):Bt pur run (.p (.bsl 5)) [U.pv,V.pv,W.pv] q [some (.slice true 5 [U.pv,V.pv,W.pv])] q:=GK QU
def wm{j l:Nat}{k:Int}{w:List UInt8}{xs:List PV}{q:Sto}{U:Tr}(h:Hm k w j l (.slice false 5 xs) q U):Bt pur run (.w (.call 274)) [r0,I k,.str w,N j,N l,.slice true 5 xs] q [some U.pv] q:=FR h (by rfl) (by rfl) (by rfl) (by simp)
def zl(q:Sto)(U:Tr):Bt pur run (.p (.stl 0 5)) [Z1,U.pv] q [some U.pv] q:=PS q (IA (I 0) (.str []) (I 0) (I 0) .nils U)
def rz(n:Nat)(U:Tr):(FE [(n,some U.pv)] [(n,some 5)]).bind CX=some U.pv:=by simp[Et,CX]
def oW1{f:FuncId}{ws:List PV}{σ τ:Sto}{b:Bool}(h:E f [r0,.slice false 1 ws] σ (.bool b) τ)(hp:pur f=false:=by rfl):Bt pur run (.w (.call f)) [r0,.slice true 1 ws] σ [some (.bool b)] τ:=FR h hp rfl rfl rfl
def oC1(σ:Sto){f:FuncId}{ws:List PV}{t:List UInt8}{q:Sto}{b:Bool}(h:E f [.slice false 1 ws,.str t] [] (.bool b) q):Bt pur run (.c f) [.slice true 1 ws,.str t] σ [some (.bool b)] σ:=MK h rfl rfl rfl rfl
def aQ(z:Nat)(v:PV)(σ:Sto){es:List PV}(l:es.length+1<=Bo)(hv:v.ones=true:=by rfl):Bt pur run (.p (.app z)) [BI z es,.slice true z [v]] σ [some (BI z (es++[v])),some (Ci z es)] σ:=GK (Kg l ⟨rfl,by simp[hv]⟩)
def aT(U:Tr)(σ:Sto){es:List PV}(l:es.length+1<=Bo):Bt pur run (.p (.app 5)) [BI 5 es,.slice true 5 [U.pv]] σ [some (BI 5 (es++[U.pv])),some (Ci 5 es)] σ:=GK (Kg l ⟨rfl,by simp⟩)
end Go.Abs.Z

namespace Go.Abs.Z
abbrev Wd:=Nat×List UInt8
inductive AT where
 |mk (kd:Nat) (tx:List UInt8) (f k:Nat) (b:Bool) (ks:List AT)
 deriving Inhabited
structure AD where
 c:Nat
 i:Nat
 t:List UInt8
inductive El where
 |fd | pa | ex
inductive NT where
 |ex (L:Nat)
 |lp (L f:Nat) (x:AT)
 |tl (e:El) (acc:List AT)
 |bk | sts (acc:List AT) | st | br | sk (f:Nat) | sp | pg (acc:List AT)
abbrev Rs:=AT×List AT
inductive Pg where
 |ret (v:Rs)
 |look (f:Wd->Wd->Nat->Pg)
 |read (p:Pg)
 |report (c:Nat) (t:List UInt8) (p:Pg)
 |call (x:NT) (f:Rs->Pg)
abbrev LG:List UInt8:=[114,101,99,111,114,100]
abbrev IQ:List UInt8:=[112,114,111,99]
abbrev Ow:List UInt8:=[118,97,114]
abbrev wIf:List UInt8:=[105,102]
abbrev Wy:List UInt8:=[101,108,115,101]
abbrev Mg:List UInt8:=[119,104,105,108,101]
abbrev Sm:List UInt8:=[102,111,114]
abbrev wTo:List UInt8:=[116,111]
abbrev Hd:List UInt8:=[114,101,116,117,114,110]
abbrev JA:List UInt8:=[97,115,115,101,114,116]
abbrev AJD:List UInt8:=[97,110,100]
abbrev wOr:List UInt8:=[111,114]
abbrev Ox:List UInt8:=[110,111,116]
abbrev IP:List UInt8:=[116,114,117,101]
abbrev Ho:List UInt8:=[102,97,108,115,101]
abbrev NY:List UInt8:=[105,110,116]
abbrev Km:List UInt8:=[98,111,111,108]
abbrev Oy:List UInt8:=[108,101,110]
abbrev BxL:List UInt8:=[110,97,109,101]
abbrev kQ:List UInt8:=[110,117,109,98,101,114]
abbrev Aj6:List UInt8:=[116,121,112,101]
abbrev U9:List UInt8:=[101,110,100]
def dgt(x:List UInt8):List UInt8:=let y:=x.dropWhile (·==48);if y=[]/\x≠[] then[48] else y
namespace Pg
def ifW(b:List (List UInt8))(p q:Pg):Pg:=.look λa _ _=>if b.contains a.2 then p else q
def ifK(k:Nat)(p q:Pg):Pg:=.look λa _ _=>if a.1=k then p else q
def mrk(g:Nat->Pg):Pg:=.look λ_ _ k=>g k
def xp(x:List UInt8)(p:Pg):Pg:=ifW [x] (.read p) (.report 4 x p)
def rd(g:List UInt8->Pg):Pg:=.look λa _ _=>.read (g a.2)
def nm(g:List UInt8->Pg):Pg:=ifK 0 (rd g) (.report 4 BxL (g []))
def num(g:List UInt8->Pg):Pg:=ifK 2 (rd λx=>g (dgt x)) (.report 4 kQ (g []))
def bd(kd:Nat)(tx:List UInt8)(f:Nat)(b:Bool)(ks:List AT)(g:AT->Pg):Pg:=.look λ_ _ k=>g (.mk kd tx f k b ks)
def nod(kd:Nat)(tx:List UInt8)(f:Nat)(ks:List AT):Pg:=bd kd tx f true ks λx=>.ret (x,[])
def cl(x:NT)(g:AT->Pg):Pg:=.call x λr=>g r.1
def lst(x:NT):Pg:=.call x .ret
def nop(g:AT->Pg):Pg:=mrk λf=>bd 0 [] f false [] g
def miss(g:AT->Pg):Pg:=mrk λf=>bd 1 [] f false [] g
end Pg
open Pg
def written(g:AT->Pg):Pg:=ifW [[58]] (.read (mrk λf=>
  ifW [NY] (.read (ifW [[91]] (.read (num λn=>xp [93] (bd 10 n f false [] g))) (bd 9 NY f false [] g)))
   (ifW [Km] (.read (bd 9 Km f false [] g)) (ifK 0 (rd λx=>bd 9 x f false [] g) (.report 4 Aj6 (miss g))))))
 (nop g)
def QL(g:AT->Pg):Pg:=mrk λf=>nm λx=>xp [58] (ifW [NY,Km] (mrk λa=>rd λt=>bd 9 t a false [] λy=>bd 4 x f false [y] g)
 (.report 4 Aj6 (miss λy=>bd 4 x f false [y] g)))
def Qx(g:AT->Pg):Pg:=mrk λf=>ifW [Ow] (.read (nm λx=>written λt=>bd 8 x f false [t] g)) (nm λx=>written λt=>bd 7 x f false [t] g)
def Xy:El->(AT->Pg)->Pg
 |.fd=>QL
 |.pa=>Qx
 |.ex=>cl (.ex 1)
def Px(e:El)(g:List AT->Pg):Pg:=Xy e λx=>.call (.tl e [x]) λr=>g r.2
def Pd(g:AT->Pg):Pg:=mrk λf=>.read (nm λx=>xp [123] (Px .fd λl=>xp [125] (bd 3 x f false l g)))
def Pk(g:AT->Pg):Pg:=mrk λf=>xp [40] (ifW [[41]] (xp [41] (bd 6 [] f true [] g)) (Px .pa λl=>xp [41] (bd 6 [] f true l g)))
def eO(g:AT->Pg):Pg:=mrk λf=>.read (nm λx=>Pk λa=>written λt=>cl .bk λb=>bd 5 x f false [a,t,b] g)
def UR(g:List AT->Pg):Pg:=.read (ifW [[41]] (xp [41] (g [])) (Px .ex λl=>xp [41] (g l)))
def Jq(g:AT->Pg):Pg:=mrk λf=>nm λx=>bd 20 x f false [] g
def OG(g:AT->Pg):Pg:=mrk λf=>Jq λv=>ifW [[91]] (.read (cl (.ex 1) λy=>xp [93] (bd 21 [] f false [v,y] g)))
 (ifW [[46]] (.read (nm λx=>bd 22 x f false [v] g)) (g v))
def opL:Nat->List (List UInt8)
 |1=>[wOr]
 |2=>[AJD]
 |4=>[[61,61],[33,61],[60],[60,61],[62],[62,61]]
 |5=>[[43],[45]]
 |6=>[[42],[47],[37]]
 |_=>[]
def wM:Pg:=mrk λf=>cl (.ex 5) λx=>ifW (opL 4) (rd λo=>cl (.ex 5) λy=>nod 29 o f [x,y]) (.ret (x,[]))
def eQ:Pg:=mrk λf=>
 ifK 2 (rd λx=>nod 24 (dgt x) f [])
 (ifW [IP,Ho] (rd λx=>nod 25 x f [])
 (.look λa b _=>if a.1=0/\b.2=[40] then rd λx=>UR λl=>nod 27 x f l
  else if a.1=0 then OG λx=>.ret (x,[])
  else ifW [[91]] (.read (Px .ex λl=>xp [93] (nod 26 [] f l)))
   (ifW [Oy] (.read (xp [40] (Jq λv=>xp [41] (nod 23 [] f [v]))))
   (ifW [[40]] (.read (cl (.ex 1) λx=>xp [41] (.ret (x,[]))))
   (.report 5 [] (miss λx=>.ret (x,[])))))))
def svP:Pg:=mrk λf=>.read (nm λx=>written λt=>xp [61] (cl (.ex 1) λv=>xp [59] (nod 12 x f [t,v])))
def qG:Pg:=mrk λf=>.read (cl (.ex 1) λc=>cl .bk λb=>nod 15 [] f [c,b])
def AUO:Pg:=mrk λf=>.read (nm λx=>xp [61] (cl (.ex 1) λa=>xp wTo (cl (.ex 1) λc=>cl .bk λb=>nod 16 x f [a,c,b])))
def kC:List (List UInt8):=[IP,Ho,Ox,Oy,[45],[40],[91]]
def aM(a:Wd):Bool:=a.1==0||a.1==2||kC.contains a.2
def Ye:Pg:=mrk λf=>.read (.look λa _ _=>if aM a then cl (.ex 1) λx=>xp [59] (nod 17 [] f [x]) else nop λx=>xp [59] (nod 17 [] f [x]))
def aO:Pg:=mrk λf=>.read (cl (.ex 1) λx=>xp [59] (nod 18 [] f [x]))
def X6:Pg:=mrk λf=>.look λ_ b _=>if b.2=[40] then rd λx=>UR λl=>xp [59] (nod 19 x f l)
 else OG λx=>xp [61] (cl (.ex 1) λy=>xp [59] (nod 13 [] f [x,y]))
def J2:List (List UInt8):=[[125],IQ,LG]
def MS:List (List UInt8):=[[125],IQ,LG,Ow,wIf,Mg,Sm,Hd,JA]
def prog:NT->Pg
 |.ex 3=>mrk λf=>ifW [Ox] (.read (cl (.ex 3) λx=>nod 28 Ox f [x])) wM
 |.ex 7=>mrk λf=>ifW [[45]] (.read (cl (.ex 7) λx=>nod 28 [45] f [x])) eQ
 |.ex L=>mrk λf=>cl (.ex (L+1)) λx=>lst (.lp L f x)
 |.lp L f x=>ifW (opL L) (rd λo=>cl (.ex (L+1)) λy=>bd 29 o f false [x,y] λz=>lst (.lp L f z)) (.ret (x,[]))
 |.tl e a=>ifW [[44]] (.read (Xy e λx=>lst (.tl e (a++[x])))) (.ret (default,a))
 |.bk=>mrk λf=>ifW [[123]] (.read (.call (.sts []) λr=>xp [125] (nod 11 [] f r.2))) (.report 4 [123] (bd 11 [] f false [] λx=>.ret (x,[])))
 |.sts a=>ifW J2 (.ret (default,a)) (ifK 5 (.ret (default,a)) (cl .st λx=>lst (.sts (a++[x]))))
 |.st=>ifW [Ow] svP (ifW [wIf] (lst .br) (ifW [Mg] qG (ifW [Sm] AUO (ifW [Hd] Ye (ifW [JA] aO (ifK 0 X6
   (.report 6 [] (mrk λf=>.call (.sk f) λ_=>nod 1 [] f []))))))))
 |.br=>mrk λf=>.read (cl (.ex 1) λc=>cl .bk λb=>ifW [Wy] (.read (ifW [wIf] (cl .br λo=>nod 14 [] f [c,b,o]) (cl .bk λo=>nod 14 [] f [c,b,o])))
   (nop λo=>nod 14 [] f [c,b,o]))
 |.sk f=>ifK 5 (.ret default) (mrk λk=>if k=f then ifW J2 (.ret default) (rd λx=>if x=[59] then .ret default else lst (.sk f))
   else ifW MS (.ret default) (rd λx=>if x=[59] then .ret default else lst (.sk f)))
 |.sp=>ifK 5 (.ret default) (ifW [IQ,LG] (.ret default) (.read (lst .sp)))
 |.pg a=>ifK 5 (.ret (default,a)) (ifW [LG] (Pd λx=>lst (.pg (a++[x]))) (ifW [IQ] (eO λx=>lst (.pg (a++[x])))
   (.report 7 [] (mrk λf=>.read (.call .sp λ_=>bd 1 [] f false [] λx=>lst (.pg (a++[x])))))))
def rp(D:List AD)(c k:Nat)(t:List UInt8):List AD:=if D.getLast?.map AD.i=some k then D else D++[⟨c,k,t⟩]
abbrev LF:=Option (Rs×Nat×List AD)
section
variable(w:Nat->Wd)
def Ml(c:NT->Nat->List AD->LF):Pg->Nat->List AD->LF
 |.ret v,k,D=>some (v,k,D)
 |.look f,k,D=>Ml c (f (w k) (w (k+1)) k) k D
 |.read p,k,D=>if(w k).1=5 then none else Ml c p (k+1) D
 |.report e t p,k,D=>Ml c p k (rp D e k t)
 |.call x f,k,D=>(c x k D).bind λr=>Ml c (f r.1) r.2.1 r.2.2
def runN:Nat->NT->Nat->List AD->LF
 |0,_,_,_=>none
 |n+1,x,k,D=>Ml w (runN n) (prog x) k D
end
end Go.Abs.Z

namespace Go.Abs.Z
noncomputable section
open PV
open Go.Proofs Go.RowKit
variable{s K w s2 tx:List UInt8}{ls:List Tk}{k l j m1 fi la m2 V U q c n:Nat}{wr:PV}{bf kd H:Int}{T σ σ' z A D M σ5 σ6 B:Sto}{t1:Tk}{b1:Bool}{e:CE}{X:FF}{c2:UInt8}{us aa:List Tr}{x G Y U4:Tr}{F Ds:List PV}{g:FuncId}
def R47:Rn 231 a231:=rn
def r47(U:k<2000000000)(b:j<2000000000)(f:1<=ls.length)(d:ls.length<2000000000)(a:ls[min (k+j) (ls.length - 1)]?=some t1):E 231 [r0,N j] (pc s ls k l wr bf::T) (.agg [N t1.k,N t1.f,N t1.a,N t1.e]) (pc s ls k l wr bf::T):=
 rule R47 [sp 10 (AO k j U b),sp 4 (ED false 4 ls),sp 0 (X0 ls.length 1 f d),sp 0 (mr (k+j) (ls.length - 1)),sp 0 (Cs (o:=false) (s:=4) (min (k+j) (ls.length - 1)) a)]
def R102:Rn 268 a268:=rn
def r102{t:Tk}(a:BM (.ssl true true) [.str s,N t.a,N t.e] (.str K)):E 268 [r0,t.pv] (pc s ls k l wr bf::T) (.str K) (pc s ls k l wr bf::T):=
 rule R102 [sp 10 a]
def R49:Rn 233 a233:=rn
def r49{j:Int}(a:E 231 [r0,I 0] σ t1.pv σ):E 233 [r0,I j] σ (.bool ((t1.k:Int)==j)) σ:=
 rule R49 [st 2 (oW a)]
def R50:Rn 234 a234:=rn
section
variable{ws:List (List UInt8)}(J:E 231 [r0,I 0] σ t1.pv σ)
include J
theorem Bw3(a:(t1.k:Int)=1)(d:E 268 [r0,t1.pv] σ (.str K) σ)(b:EvE 247 [slF 1 (ws.map PV.str),.str K] (.bool b1)):E 234 [r0,slF 1 (ws.map PV.str)] σ (.bool b1) σ:=
 rule R50 [st 2 (oW J),sp 4 (Bz .i64 a),sg 9 (oW d),sg 0 (oCS σ b)]
theorem Bw2(d:(t1.k:Int)≠1)(c2:(t1.k:Int)=3)(a:E 268 [r0,t1.pv] σ (.str K) σ)(b:EvE 247 [slF 1 (ws.map PV.str),.str K] (.bool b1)):E 234 [r0,slF 1 (ws.map PV.str)] σ (.bool b1) σ:=
 rule R50 [st 2 (oW J),sp 4 (Bb .i64 d),sq 3 (Bz .i64 c2),sg 5 (oW a),sg 0 (oCS σ b)]
theorem Bw1(a:(t1.k:Int)≠1)(c2:(t1.k:Int)≠3):E 234 [r0,slF 1 (ws.map PV.str)] σ (.bool false) σ:=
 rule R50 [st 2 (oW J),sp 4 (Bb .i64 a),sq 3 (Bb .i64 c2)]
end
def R101:Rn 247 BW0:=rn
def BQ6{a:List (List UInt8)}{z1:Int}(b:EvE 280 [slF 1 (a.map PV.str),.str w] (I z1)):EvE 247 [slF 1 (a.map PV.str),.str w] (.bool (decide (z1>=0))):=
 rule R101 [st 3 (oC b)]
def BYI:Rn 280 MO:=rn
section
variable{ws:List (List UInt8)}
def AW6(a:LL MO 0 [(0,slice false 1 (ws.map PV.str)),(1,str w),(7,N ws.length),(8,I 0)] [] (.exit 0) [(0,slice false 1 (ws.map PV.str))] []):EvE 280 [slF 1 (ws.map PV.str),.str w] (I (-1)):=
 rule BYI [sp 2 (Pz false 1 ws),sl 1 [0,1,7,8] a]
def AW5(a:LL MO 0 [(0,slice false 1 (ws.map PV.str)),(1,str w),(7,N ws.length),(8,I 0)] [] .ret [(4,N m1)] []):EvE 280 [slF 1 (ws.map PV.str),.str w] (N m1):=
 rule BYI [sp 2 (Pz false 1 ws),sl 1 [0,1,7,8] a]
def Zj(a:¬(m1:Int) < (ws.length:Int)):LL MO 0 [(0,slice false 1 (ws.map PV.str)),(1,str w),(7,N ws.length),(8,N m1)] [] (.exit 0) [(0,slice false 1 (ws.map PV.str))] []:=
 Bw [0] [sp 0 (Bh .i64 a)]
section
variable(c1:(m1:Int) < (ws.length:Int))(g1:ws[m1]?=some K)
include c1 g1
theorem Zi(c2:w=K):LL MO 0 [(0,slice false 1 (ws.map PV.str)),(1,str w),(7,N ws.length),(8,N m1)] [] .ret [(4,N m1)] []:=
 Bw [4] [sp 0 (AZ .i64 c1),sp 6 (T9 (o:=false) (s:=1) m1 g1),sp 1 (Jb c2)]
theorem Ob(c2:w≠K)(U:m1<2000000000)(a:LL MO 0 [(0,slice false 1 (ws.map PV.str)),(1,str w),(7,N ws.length),(8,N (m1+1))] [] e X σ'):LL MO 0 [(0,slice false 1 (ws.map PV.str)),(1,str w),(7,N ws.length),(8,N m1)] [] e X σ':=
 BC [0,1,7,8] [sp 0 (AZ .i64 c1),sp 6 (T9 (o:=false) (s:=1) m1 g1),sp 1 (II c2),sp 1 (AO m1 1 U)] a
end
end
def R76:Rn 278 a278:=rn
def r76(a:wr.isSelf=false){t1:Tk}{K:List UInt8}(b:E 231 [r0,I 0] (pc s ls k l wr bf::T) t1.pv (pc s ls k l wr bf::T))(U:k<2000000000)(d:E 268 [r0,t1.pv] (pc s ls (k+1) t1.e wr bf::T) (.str K) (pc s ls (k+1) t1.e wr bf::T)):E 278 [r0] (pc s ls k l wr bf::T) (.str K) (pc s ls (k+1) t1.e wr bf::T):=
 rule R76 [st 2 (oW b),sp 8 (AO k 1 U),st 4 (stK (by first | rfl | exact a):Bt pur run (.w (.st 1)) [.ref 0 2,N (k+1)] (pc s ls k l wr bf::T) [] (pc s ls (k+1) l wr bf::T)),st 2 (stL (by first | rfl | exact a):Bt pur run (.w (.st 1)) [.ref 0 3,N t1.e] (pc s ls (k+1) l wr bf::T) [] (pc s ls (k+1) t1.e wr bf::T)),st 2 (oW d)]
def R75:Rn 269 a269:=rn
def r75:E 269 [r0] (pc s ls k l wr bf::T) (.tuple [N k,N l]) (pc s ls k l wr bf::T):=
 rule R75 []
def BYP:Rn 285 a285:=rn
def jw(a:Hw [.str w] σ true)(b:Hs 278 σ K z):Hb 285 w σ true z:=
 rule BYP [st 4 (oW1 a),st 3 (oW b)]
def AWS(a:Hw [.str w] σ false):Hb 285 w σ false σ:=
 rule BYP [st 4 (oW1 a)]
def BYV:Rn 270 a270:=rn
def jy(a:Hb 285 w σ true z):Hq 270 w σ z:=
 rule BYV [st 2 (oW a)]
def AYM(a:Hb 285 w σ false z)(b:E 237 [r0,I 4,.str w] z (.tuple []) A):Hq 270 w σ A:=
 rule BYV [st 2 (oW a),st 4 (oW b)]
def BYU:Rn 271 a271:=rn
def AYL(a:Hi 0 σ true)(b:Hs 278 σ K z):Hs 271 σ K z:=
 rule BYU [st 2 (oW a),st 2 (oW b)]
def AYK(a:Hi 0 σ false)(b:E 237 [r0,I 4,.str [110,97,109,101]] σ (.tuple []) z):Hs 271 σ [] z:=
 rule BYU [st 2 (oW a),st 2 (oW b)]
def BYG:Rn 289 a289:=rn
def uZ(a:Hi 2 σ true)(d:Hs 278 σ K z)(b:EvE 296 [.str K] (.str s2)):Hs 289 σ s2 z:=
 rule BYG [st 2 (oW a),st 2 (oW d),st 0 (oCS z b)]
def AVY(a:Hi 2 σ false)(b:E 237 [r0,I 4,.str [110,117,109,98,101,114]] σ (.tuple []) z):Hs 289 σ [] z:=
 rule BYG [st 2 (oW a),st 2 (oW b)]
def BqN:Rn 296 a296:=rn
section
variable(J:EvE 63 [.str w,.str [48]] (.str K))
include J
theorem AV6(a:K≠[]):EvE 296 [.str w] (.str K):=
 rule BqN [st 2 (oC J),sp 2 (AK8 a)]
theorem AV5(a:K=[])(c2:w=[]):EvE 296 [.str w] (.str K):=
 rule BqN [st 2 (oC J),sp 2 (uQ a),sq 2 (Jb c2)]
theorem AV4(a:K=[])(c2:w≠[]):EvE 296 [.str w] (.str [48]):=
 rule BqN [st 2 (oC J),sp 2 (uQ a),sq 2 (II c2)]
end
def BYD:Rn 63 a63:=rn
def AV3(a:w=[]):EvE 63 [.str w,.str [48]] (.str w):=
 rule BYD [sp 2 (Jb a)]
def AV2(b:w≠[])(a:EvE 72 [.str w,.int .u8 48] (.str K)):EvE 63 [.str w,.str [48]] (.str K):=
 rule BYD [sp 2 (II b),st 17 (oC a)]
def R158:Rn 72 a72:=rn
def CqJ(a:LL a72 0 [(0,str w),(1,int .u8 48)] [] (.exit 0) [(0,str K)] []):EvE 72 [.str w,.int .u8 48] (.str K):=
 rule R158 [sl 1 [0,1] a]
def Y4(a:¬(K.length:Int) > 0):LL a72 0 [(0,str K),(1,int .u8 48)] [] (.exit 0) [(0,str K)] []:=
 Bw [0] [sp 2 (Cz .i64 a)]
section
variable(c1:(K.length:Int) > 0)(g1:(K:List UInt8)[0]?=some c2)
include c1 g1
theorem Vj(a:(c2.toNat:Int)=48)(b:BM (.ssl true false) [.str K,I 1] (.str s2))(d:LL a72 0 [(0,str s2),(1,int .u8 48)] [] e X σ'):LL a72 0 [(0,str K),(1,int .u8 48)] [] e X σ':=
 BC [0,1] [sp 2 (CF .i64 c1),sq 2 (Bi _ 0 _ g1),sq 1 (Bz .u8 a),sp 3 b] d
theorem Y3(a:(c2.toNat:Int)≠48):LL a72 0 [(0,str K),(1,int .u8 48)] [] (.exit 0) [(0,str K)] []:=
 Bw [0] [sp 2 (CF .i64 c1),sq 2 (Bi _ 0 _ g1),sq 1 (Bb .u8 a)]
end
def R78:Rn 274 a274:=rn
def AKI(b:(k:Int) > (fi:Int))(a:ls[fi]?=some t1):E 274 [r0,I kd,.str tx,N fi,N la,.nils] (pc s ls k l wr bf::T) (.agg [I kd,.str tx,N t1.a,N l,.nils]) (pc s ls k l wr bf::T):=
 rule R78 [sp 14 (CF .i64 b),sp 6 (Cs (o:=false) (s:=4) fi a)]
def AKH(a:¬(k:Int) > (fi:Int)):E 274 [r0,I kd,.str tx,N fi,N la,.nils] (pc s ls k l wr bf::T) (.agg [I kd,.str tx,N la,N la,.nils]) (pc s ls k l wr bf::T):=
 rule R78 [sp 14 (Cz .i64 a)]
def Bv7(b:(k:Int) > (fi:Int))(a:ls[fi]?=some t1)(c2:(us.length:Int) > 0)(d:us[0]?=some x):E 274 [r0,I kd,.str tx,N fi,N la,slF 5 (Tr.pvs us)] (pc s ls k l wr bf::T) (.agg [I kd,.str tx,I (min (t1.a:Int) x.st),N l,slF 5 (Tr.pvs us)]) (pc s ls k l wr bf::T):=
 rule R78 [sp 14 (CF .i64 b),sp 6 (Cs (o:=false) (s:=4) fi a),sp 11 (IC false 5 us),sp 0 (CF .i64 c2),sp 4 (Jf (o:=false) (s:=5) 0 d),sp 0 (DD x),sp 1 (BZ9 (t1.a:Int) x.st)]
def Bv6(b:¬(k:Int) > (fi:Int))(c2:(us.length:Int) > 0)(a:us[0]?=some x):E 274 [r0,I kd,.str tx,N fi,N la,slF 5 (Tr.pvs us)] (pc s ls k l wr bf::T) (.agg [I kd,.str tx,I (min (la:Int) x.st),N la,slF 5 (Tr.pvs us)]) (pc s ls k l wr bf::T):=
 rule R78 [sp 14 (Cz .i64 b),sp 2 (IC false 5 us),sp 0 (CF .i64 c2),sp 4 (Jf (o:=false) (s:=5) 0 a),sp 0 (DD x),sp 1 (BZ9 (la:Int) x.st)]
def R124:Rn 288 a288:=rn
def r124(a:Hp σ m1 m2)(b:Hm 0 [] m1 m2 .nils σ x):Ht 288 σ x σ:=
 Br R124 [st 2 (oW a),st 8 (oW b),st 0 (zl σ x)] (rz 2 x)
def R138:Rn 286 a286:=rn
def r138(a:Hp σ m1 m2)(b:Hm 1 [] m1 m2 .nils σ x):Ht 286 σ x σ:=
 Br R138 [st 2 (oW a),st 8 (oW b),st 0 (zl σ x)] (rz 2 x)
def R51:Rn 235 a235:=rn
def r51(a:Hp σ m1 m2)(i:Hq 270 [114,101,99,111,114,100] σ z)(b:Hs 271 z K A)(d:Hq 270 [123] A D)(h:E 272 [r0,.func 273 [r0] []] D (slF 5 (Tr.pvs aa)) M)(f:Hq 270 [125] M σ5)(m:Hm 3 K m1 m2 (slF 5 (Tr.pvs aa)) σ5 x):Ht 235 σ x σ5:=
 Br R51 [st 2 (oW a),st 6 (oW i),st 1 (oW b),st 2 (oW d),st 3 (oW h),st 2 (oW f),st 5 (oW m),st 0 (zl σ5 x)] (rz 2 x)
def BYT:Rn 273 a273:=rn
def AYJ{m3:Nat}{a:Nat}(b:Hp σ m1 m2)(o:Hs 271 σ K z)(d:Hq 270 [58] z A)(h:Hw [.str [105,110,116],.str [98,111,111,108]] A true)(m:Hp A m3 a)(i:Hs 278 A s2 D)(p:Hm 9 s2 m3 a .nils D x)(f:Hm 4 K m1 m2 (slF 5 [x.pv]) D G):Ht 273 σ G D:=
 Br BYT [st 2 (oW b),st 6 (oW o),st 2 (oW d),st 2 (oW1 h),st 2 (oW m),st 6 (oW i),st 9 (oW p),st 0 (bz1 D x),st 0 (wm f),st 0 (zl D G)] (rz 2 G)
def AYI(a:Hp σ m1 m2)(i:Hs 271 σ K z)(b:Hq 270 [58] z A)(d:Hw [.str [105,110,116],.str [98,111,111,108]] A false)(h:E 237 [r0,I 4,.str [116,121,112,101]] A (.tuple []) D)(f:Ht 286 D x D)(m:Hm 4 K m1 m2 (slF 5 [x.pv]) D G):Ht 273 σ G D:=
 Br BYT [st 2 (oW a),st 6 (oW i),st 2 (oW b),st 2 (oW1 d),st 2 (oW h),st 1 (oW f),sp 1 (BD x),st 4 (QS D (AL x)),st 0 (bz1 D x),st 0 (wm m),st 0 (zl D G)] (rz 2 G)
def R52:Rn 236 a236:=rn
def r52(a:Hp σ m1 m2)(i:Hq 270 [112,114,111,99] σ z)(b:Hs 271 z K A)(d:Ht 275 A x D)(h:Ht 276 D G M)(f:Ht 277 M Y σ5)(m:Hm 5 K m1 m2 (slF 5 [x.pv,G.pv,Y.pv]) σ5 U4):Ht 236 σ U4 σ5:=
 Br R52 [st 2 (oW a),st 6 (oW i),st 1 (oW b),st 2 (oW d),sp 1 (BD x),st 1 (oW h),sp 1 (BD G),st 1 (oW f),sp 1 (BD Y),st 4 (QS σ5 (AL x)),st 0 (QS σ5 (AL G)),st 0 (QS σ5 (AL Y)),st 0 (bz3 σ5 x G Y),st 0 (wm m),st 0 (zl σ5 U4)] (rz 2 U4)
def BYS:Rn 275 a275:=rn
def AYH(a:Hp σ m1 m2)(h:Hq 270 [40] σ z)(b:Hw [.str [41]] z true)(d:Hq 270 [41] z A)(f:Hm 6 [] m1 m2 .nils A x):Ht 275 σ x A:=
 Br BYS [st 2 (oW a),st 6 (oW h),st 3 (oW1 b),st 3 (oW d),st 4 (oW f),st 0 (zl A x)] (rz 2 x)
def AYG(a:Hp σ m1 m2)(i:Hq 270 [40] σ z)(b:Hw [.str [41]] z false)(d:E 272 [r0,.func 287 [r0] []] z (slF 5 (Tr.pvs aa)) A)(h:Hq 270 [41] A D)(f:Hm 6 [] m1 m2 (slF 5 (Tr.pvs aa)) D x):Ht 275 σ x D:=
 Br BYS [st 2 (oW a),st 6 (oW i),st 3 (oW1 b),st 5 (oW d),st 2 (oW h),st 4 (oW f),st 0 (zl D x)] (rz 2 x)
def BYH:Rn 287 a287:=rn
def AW4(a:Hp σ m1 m2)(h:Hb 285 [118,97,114] σ true z)(b:Hs 271 z K A)(d:Ht 276 A x D)(f:Hm 8 K m1 m2 (slF 5 [x.pv]) D G):Ht 287 σ G D:=
 Br BYH [st 2 (oW a),st 7 (oW h),st 3 (oW b),st 2 (oW d),sp 1 (BD x),st 5 (QS D (AL x)),st 0 (bz1 D x),st 0 (wm f),st 0 (zl D G)] (rz 2 G)
def AVZ(a:Hp σ m1 m2)(h:Hb 285 [118,97,114] σ false z)(b:Hs 271 z K A)(d:Ht 276 A x D)(f:Hm 7 K m1 m2 (slF 5 [x.pv]) D G):Ht 287 σ G D:=
 Br BYH [st 2 (oW a),st 7 (oW h),st 2 (oW b),st 2 (oW d),sp 1 (BD x),st 5 (QS D (AL x)),st 0 (bz1 D x),st 0 (wm f),st 0 (zl D G)] (rz 2 G)
def qp:Rn 276 a276:=rn
def AYF(a:Hb 285 [58] σ false z)(b:Ht 288 z x z):Ht 276 σ x z:=
 Br qp [st 2 (oW a),st 3 (oW b),st 0 (zl z x)] (rz 2 x)
section
variable(J:Hb 285 [58] σ true z)(O:Hp z m1 m2)
include J O
theorem AYE(b:Hb 285 [105,110,116] z true A)(d:Hb 285 [91] A true D)(h:Hs 289 D K M)(f:Hq 270 [93] M σ5)(a:Hm 10 K m1 m2 .nils σ5 x):Ht 276 σ x σ5:=
 Br qp [st 2 (oW J),st 3 (oW O),st 6 (oW b),st 3 (oW d),st 3 (oW h),st 2 (oW f),st 4 (oW a),st 0 (zl σ5 x)] (rz 2 x)
theorem AYD(b:Hb 285 [105,110,116] z true A)(a:Hb 285 [91] A false D)(d:Hm 9 [105,110,116] m1 m2 .nils D x):Ht 276 σ x D:=
 Br qp [st 2 (oW J),st 3 (oW O),st 6 (oW b),st 3 (oW a),st 5 (oW d),st 0 (zl D x)] (rz 2 x)
section
variable(W:Hb 285 [105,110,116] z false A)
include W
theorem AYC(a:Hb 285 [98,111,111,108] A true D)(b:Hm 9 [98,111,111,108] m1 m2 .nils D x):Ht 276 σ x D:=
 Br qp [st 2 (oW J),st 3 (oW O),st 6 (oW W),st 3 (oW a),st 5 (oW b),st 0 (zl D x)] (rz 2 x)
section
variable(h4:Hb 285 [98,111,111,108] A false D)
include h4
theorem AYB(d:Hi 0 D true)(b:Hs 278 D K M)(a:Hm 9 K m1 m2 .nils M x):Ht 276 σ x M:=
 Br qp [st 2 (oW J),st 3 (oW O),st 6 (oW W),st 3 (oW h4),st 3 (oW d),st 3 (oW b),st 5 (oW a),st 0 (zl M x)] (rz 2 x)
theorem AYA(b:Hi 0 D false)(d:E 237 [r0,I 4,.str [116,121,112,101]] D (.tuple []) M)(a:Ht 286 M x M):Ht 276 σ x M:=
 Br qp [st 2 (oW J),st 3 (oW O),st 6 (oW W),st 3 (oW h4),st 3 (oW b),st 3 (oW d),st 1 (oW a),st 0 (zl M x)] (rz 2 x)
end
end
end
def R82:Rn 303 a303:=rn
def r82(a:Hw [.str [125],.str [112,114,111,99],.str [114,101,99,111,114,100],.str [118,97,114],.str [105,102],.str [119,104,105,108,101],.str [102,111,114],.str [114,101,116,117,114,110],.str [97,115,115,101,114,116]] σ b1):E 303 [r0] σ (.bool b1) σ:=
 rule R82 [st 3 (oW1 a)]
def R73:Rn 297 a297:=rn
def r73(a:Hp σ m1 m2)(m:Hq 270 [118,97,114] σ z)(b:Hs 271 z K A)(d:Ht 276 A x D)(i:Hq 270 [61] D M)(h:Ht 299 M G σ5)(o:Hq 270 [59] σ5 σ6)(f:Hm 12 K m1 m2 (slF 5 [x.pv,G.pv]) σ6 Y):Ht 297 σ Y σ6:=
 Br R73 [st 2 (oW a),st 6 (oW m),st 1 (oW b),st 2 (oW d),sp 1 (BD x),st 1 (oW i),st 1 (oW h),sp 1 (BD G),st 1 (oW o),st 4 (QS σ6 (AL x)),st 0 (QS σ6 (AL G)),st 0 (bz2 σ6 x G),st 0 (wm f),st 0 (zl σ6 Y)] (rz 2 Y)
def R74:Rn 298 a298:=rn
section
variable(J:Hp σ m1 m2)(O:Hq 270 [105,102] σ z)(W:Ht 299 z x A)(h4:Ht 277 A G D)
include J O W h4
def rY:List Stp:=[st 2 (oW J),st 6 (oW O),st 1 (oW W),sp 1 (BD x),st 1 (oW h4),sp 1 (BD G)]
theorem BvB(d:Hb 285 [101,108,115,101] D false M)(b:Ht 288 M Y M)(a:Hm 14 [] m1 m2 (slF 5 [x.pv,G.pv,Y.pv]) M U4):Ht 298 σ U4 M:=
 Br R74 (rY J O W h4++[st 2 (oW d),st 4 (oW b),st 0 (zl M Y),st 3 (QS M (AL x)),st 0 (QS M (AL G)),sp 0 (EQ Y),st 0 (bz3 M x G Y),st 0 (wm a),st 0 (zl M U4)]) (rz 2 U4)
section
variable(h5:Hb 285 [101,108,115,101] D true M)
include h5
theorem BvA(d:Hw [.str [105,102]] M true)(a:Ht 298 M Y σ5)(b:Hm 14 [] m1 m2 (slF 5 [x.pv,G.pv,Y.pv]) σ5 U4):Ht 298 σ U4 σ5:=
 Br R74 (rY J O W h4++[st 2 (oW h5),st 5 (oW1 d),st 3 (oW a),st 0 (zl σ5 Y),st 3 (QS σ5 (AL x)),st 0 (QS σ5 (AL G)),sp 0 (EQ Y),st 0 (bz3 σ5 x G Y),st 0 (wm b),st 0 (zl σ5 U4)]) (rz 2 U4)
theorem Bv9(d:Hw [.str [105,102]] M false)(a:Ht 277 M Y σ5)(b:Hm 14 [] m1 m2 (slF 5 [x.pv,G.pv,Y.pv]) σ5 U4):Ht 298 σ U4 σ5:=
 Br R74 (rY J O W h4++[st 2 (oW h5),st 5 (oW1 d),st 3 (oW a),st 0 (zl σ5 Y),st 3 (QS σ5 (AL x)),st 0 (QS σ5 (AL G)),sp 0 (EQ Y),st 0 (bz3 σ5 x G Y),st 0 (wm b),st 0 (zl σ5 U4)]) (rz 2 U4)
end
end
def R79:Rn 300 a300:=rn
def r79{a:Sto}(b:Hp σ m1 m2)(p:Hq 270 [102,111,114] σ z)(m:Hs 271 z K A)(f:Hq 270 [61] A D)(o:Ht 299 D x M)(h:Hq 270 [116,111] M σ5)(r:Ht 299 σ5 G σ6)(d:Ht 277 σ6 Y a)(i:Hm 16 K m1 m2 (slF 5 [x.pv,G.pv,Y.pv]) a U4):Ht 300 σ U4 a:=
 Br R79 [st 2 (oW b),st 6 (oW p),st 1 (oW m),st 2 (oW f),st 1 (oW o),sp 1 (BD x),st 1 (oW h),st 1 (oW r),sp 1 (BD G),st 1 (oW d),sp 1 (BD Y),st 4 (QS a (AL x)),st 0 (QS a (AL G)),st 0 (QS a (AL Y)),st 0 (bz3 a x G Y),st 0 (wm i),st 0 (zl a U4)] (rz 2 U4)
def R80:Rn 301 a301:=rn
def Bv5(a:Hp σ m1 m2)(i:Hw [.str [114,101,116,117,114,110]] σ false)(b:Hs 278 σ K z)(d:Ht 299 z x A)(h:Hq 270 [59] A D)(f:Hm 18 [] m1 m2 (slF 5 [x.pv]) D G):Ht 301 σ G D:=
 Br R80 [st 2 (oW a),st 8 (oW1 i),st 2 (oW b),st 10 (oW d),st 0 (zl A x),st 1 (oW h),sp 4 (EQ x),st 0 (bz1 D x),st 0 (wm f),st 0 (zl D G)] (rz 2 G)
section
variable(J:Hp σ m1 m2)(O:Hw [.str [114,101,116,117,114,110]] σ true)(W:Hs 278 σ K z)
include J O W
def AjW:List Stp:=[st 2 (oW J),st 8 (oW1 O),st 3 (oW W)]
theorem Bv4(b:E 310 [r0] z (.bool true) z)(f:Ht 299 z x A)(d:Hq 270 [59] A D)(a:Hm 17 [] m1 m2 (slF 5 [x.pv]) D G):Ht 301 σ G D:=
 Br R80 (AjW J O W++[sg 5 (oW b),st 4 (oW f),st 0 (zl A x),st 1 (oW d),sp 4 (EQ x),st 0 (bz1 D x),st 0 (wm a),st 0 (zl D G)]) (rz 2 G)
theorem Bv3(b:E 310 [r0] z (.bool false) z)(f:Ht 288 z x z)(d:Hq 270 [59] z A)(a:Hm 17 [] m1 m2 (slF 5 [x.pv]) A G):Ht 301 σ G A:=
 Br R80 (AjW J O W++[sg 5 (oW b),st 4 (oW f),st 0 (zl z x),st 1 (oW d),sp 4 (EQ x),st 0 (bz1 A x),st 0 (wm a),st 0 (zl A G)]) (rz 2 G)
end
def BqQ:Rn 310 a310:=rn
def AWR(a:Hi 0 σ true):E 310 [r0] σ (.bool true) σ:=
 rule BqQ [st 2 (oW a)]
def AWQ(a:Hi 0 σ false)(b:Hi 2 σ true):E 310 [r0] σ (.bool true) σ:=
 rule BqQ [st 2 (oW a),sg 2 (oW b)]
def AWP(a:Hi 0 σ false)(d:Hi 2 σ false)(b:Hw [.str [116,114,117,101],.str [102,97,108,115,101],.str [110,111,116],.str [108,101,110],.str [45],.str [40],.str [91]] σ b1):E 310 [r0] σ (.bool b1) σ:=
 rule BqQ [st 2 (oW a),sg 2 (oW d),sg 4 (oW1 b)]
def R81:Rn 302 a302:=rn
def Bv2(a:Hp σ m1 m2)(i:Hb 311 [40] σ false σ)(b:Ht 313 σ x z)(d:Hq 270 [61] z A)(h:Ht 299 A G D)(f:Hq 270 [59] D M)(m:Hm 13 [] m1 m2 (slF 5 [x.pv,G.pv]) M Y):Ht 302 σ Y M:=
 Br R81 [st 2 (oW a),st 6 (oW i),st 2 (oW b),sp 1 (BD x),st 1 (oW d),st 1 (oW h),sp 1 (BD G),st 1 (oW f),st 3 (QS M (AL x)),st 0 (QS M (AL G)),st 0 (bz2 M x G),st 0 (wm m),st 0 (zl M Y)] (rz 2 Y)
section
variable(J:Hp σ m1 m2)(O:Hb 311 [40] σ true σ)(W:Hs 278 σ K z)
include J O W
theorem Bv1(b:E 312 [r0] z .nils A)(a:Hq 270 [59] A D)(d:Hm 19 K m1 m2 .nils D x):Ht 302 σ x D:=
 Br R81 [st 2 (oW J),st 6 (oW O),st 2 (oW W),st 2 (oW b),st 2 (oW a),st 5 (oW d),st 0 (zl D x)] (rz 2 x)
theorem Bv0(b:E 312 [r0] z (slF 5 (Tr.pvs aa)) A)(a:Hq 270 [59] A D)(d:Hm 19 K m1 m2 (slF 5 (Tr.pvs aa)) D x):Ht 302 σ x D:=
 Br R81 [st 2 (oW J),st 6 (oW O),st 2 (oW W),st 2 (oW b),st 2 (oW a),st 5 (oW d),st 0 (zl D x)] (rz 2 x)
end
def R142:Rn 316 a316:=rn
def r142(a:Hp σ m1 m2)(d:Hs 271 σ K z)(b:Hm 20 K m1 m2 .nils z x):Ht 316 σ x z:=
 Br R142 [st 2 (oW a),st 6 (oW d),st 5 (oW b),st 0 (zl z x)] (rz 2 x)
def BqP:Rn 313 a313:=rn
section
variable(J:Hp σ m1 m2)(O:Ht 316 σ x z)
include J O
def rU:List Stp:=[st 2 (oW J),st 6 (oW O),sp 1 (BD x)]
theorem AWK(b:Hb 285 [91] z true A)(d:Ht 299 A G D)(a:Hq 270 [93] D M)(f:Hm 21 [] m1 m2 (slF 5 [x.pv,G.pv]) M Y):Ht 313 σ Y M:=
 Br BqP (rU J O++[st 1 (oW b),st 3 (oW d),sp 1 (BD G),st 1 (oW a),st 3 (QS M (AL x)),st 0 (QS M (AL G)),st 0 (bz2 M x G),st 0 (wm f),st 0 (zl M Y)]) (rz 2 Y)
theorem AWJ(b:Hb 285 [91] z false A)(d:Hb 285 [46] A true D)(a:Hs 271 D K M)(f:Hm 22 K m1 m2 (slF 5 [x.pv]) M G):Ht 313 σ G M:=
 Br BqP (rU J O++[st 1 (oW b),st 3 (oW d),st 3 (oW a),st 5 (QS M (AL x)),st 0 (bz1 M x),st 0 (wm f),st 0 (zl M G)]) (rz 2 G)
theorem AWI(b:Hb 285 [91] z false A)(a:Hb 285 [46] A false D):Ht 313 σ x D:=
 Br BqP (rU J O++[st 1 (oW b),st 3 (oW a),st 2 (QS D (AL x)),st 0 (zl D x)]) (rz 2 x)
end
def R35:Rn 299 a299:=rn
def r35(a:E 308 [r0,.func 309 [r0] [],slF 1 [.str [111,114]]] σ x.pv z):Ht 299 σ x z:=
 Br R35 [st 5 (FR a (by rfl) (by simp) (by simp) (by simp):Bt pur run (.w (.call 308)) [r0,.func 309 [r0] [],.slice true 1 [.str [111,114]]] σ [some x.pv] z),st 0 (zl z x)] (rz 2 x)
def R70:Rn 309 a309:=rn
def r70(a:E 308 [r0,.func 315 [r0] [],slF 1 [.str [97,110,100]]] σ x.pv z):Ht 309 σ x z:=
 Br R70 [st 5 (FR a (by rfl) (by simp) (by simp) (by simp):Bt pur run (.w (.call 308)) [r0,.func 315 [r0] [],.slice true 1 [.str [97,110,100]]] σ [some x.pv] z),st 0 (zl z x)] (rz 2 x)
def BqR:Rn 315 a315:=rn
def AWV(a:Hp σ m1 m2)(f:Hb 285 [110,111,116] σ true z)(b:Ht 315 z x A)(d:Hm 28 [110,111,116] m1 m2 (slF 5 [x.pv]) A G):Ht 315 σ G A:=
 Br BqR [st 2 (oW a),st 6 (oW f),st 2 (oW b),sp 1 (BD x),st 3 (QS A (AL x)),st 0 (bz1 A x),st 0 (wm d),st 0 (zl A G)] (rz 2 G)
section
variable(J:Hp σ m1 m2)(O:Hb 285 [110,111,116] σ false z)(W:Ht 317 z x A)
include J O W
theorem AWU(b:Hw [.str [61,61],.str [33,61],.str [60],.str [60,61],.str [62],.str [62,61]] A true)(f:Hs 278 A K D)(d:Ht 317 D G M)(a:Hm 29 K m1 m2 (slF 5 [x.pv,G.pv]) M Y):Ht 315 σ Y M:=
 Br BqR [st 2 (oW J),st 6 (oW O),st 2 (oW W),sp 1 (BD x),st 2 (oW1 b),st 2 (oW f),st 2 (oW d),sp 1 (BD G),st 4 (QS M (AL x)),st 0 (QS M (AL G)),st 0 (bz2 M x G),st 0 (wm a),st 0 (zl M Y)] (rz 2 Y)
theorem AWT(a:Hw [.str [61,61],.str [33,61],.str [60],.str [60,61],.str [62],.str [62,61]] A false):Ht 315 σ x A:=
 Br BqR [st 2 (oW J),st 6 (oW O),st 2 (oW W),sp 1 (BD x),st 2 (oW1 a),st 1 (QS A (AL x)),st 0 (zl A x)] (rz 2 x)
end
def R141:Rn 317 a317:=rn
def r141(a:E 308 [r0,.func 318 [r0] [],slF 1 [.str [43],.str [45]]] σ x.pv z):Ht 317 σ x z:=
 Br R141 [st 5 (FR a (by rfl) (by simp) (by simp) (by simp):Bt pur run (.w (.call 308)) [r0,.func 318 [r0] [],.slice true 1 [.str [43],.str [45]]] σ [some x.pv] z),st 0 (zl z x)] (rz 2 x)
def R152:Rn 318 a318:=rn
def r152(a:E 308 [r0,.func 319 [r0] [],slF 1 [.str [42],.str [47],.str [37]]] σ x.pv z):Ht 318 σ x z:=
 Br R152 [st 5 (FR a (by rfl) (by simp) (by simp) (by simp):Bt pur run (.w (.call 308)) [r0,.func 319 [r0] [],.slice true 1 [.str [42],.str [47],.str [37]]] σ [some x.pv] z),st 0 (zl z x)] (rz 2 x)
def BYC:Rn 319 a319:=rn
def AV1(a:Hp σ m1 m2)(f:Hb 285 [45] σ true z)(b:Ht 319 z x A)(d:Hm 28 [45] m1 m2 (slF 5 [x.pv]) A G):Ht 319 σ G A:=
 Br BYC [st 2 (oW a),st 6 (oW f),st 2 (oW b),sp 1 (BD x),st 3 (QS A (AL x)),st 0 (bz1 A x),st 0 (wm d),st 0 (zl A G)] (rz 2 G)
def AV0(a:Hp σ m1 m2)(d:Hb 285 [45] σ false z)(b:Ht 320 z x A):Ht 319 σ x A:=
 Br BYC [st 2 (oW a),st 6 (oW d),st 2 (oW b),st 0 (zl A x)] (rz 2 x)
def bu:Rn 320 a320:=rn
section
variable(J:Hp σ m1 m2)
include J
theorem AKZ(a:Hi 2 σ true)(b:Hs 289 σ K z)(d:Hm 24 K m1 m2 .nils z x):Ht 320 σ x z:=
 Br bu [st 2 (oW J),st 6 (oW a),st 3 (oW b),st 5 (oW d),st 0 (zl z x)] (rz 2 x)
section
variable(O:Hi 2 σ false)
include O
def bE:List Stp:=[st 2 (oW J),st 6 (oW O)]
theorem AKY(b:Hw [.str [116,114,117,101],.str [102,97,108,115,101]] σ true)(d:Hs 278 σ K z)(a:Hm 25 K m1 m2 .nils z x):Ht 320 σ x z:=
 Br bu (bE J O++[st 4 (oW1 b),st 3 (oW d),st 5 (oW a),st 0 (zl z x)]) (rz 2 x)
section
variable(W:Hw [.str [116,114,117,101],.str [102,97,108,115,101]] σ false)
include W
theorem AKX(a:Hi 0 σ true)(b:Hb 311 [40] σ false σ)(d:Ht 313 σ x z):Ht 320 σ x z:=
 Br bu (bE J O++[st 4 (oW1 W),st 3 (oW a),sg 2 (oW b),st 4 (oW a),st 3 (oW d),st 0 (zl z x)]) (rz 2 x)
theorem AKW(a:Hi 0 σ false)(h:Hb 285 [91] σ true z)(f:E 272 [r0,.func 299 [r0] []] z (slF 5 (Tr.pvs aa)) A)(b:Hq 270 [93] A D)(d:Hm 26 [] m1 m2 (slF 5 (Tr.pvs aa)) D x):Ht 320 σ x D:=
 Br bu (bE J O++[st 4 (oW1 W),st 3 (oW a),st 7 (oW a),st 3 (oW h),st 5 (oW f),st 2 (oW b),st 4 (oW d),st 0 (zl D x)]) (rz 2 x)
section
variable(h4:Hi 0 σ true)(h5:Hb 311 [40] σ true σ)(h6:Hs 278 σ K z)
include h4 h5 h6
def AjV:List Stp:=bE J O++[st 4 (oW1 W),st 3 (oW h4),sg 2 (oW h5),st 4 (oW h6)]
theorem AKV(a:E 312 [r0] z .nils A)(b:Hm 27 K m1 m2 .nils A x):Ht 320 σ x A:=
 Br bu (AjV J O W h4 h5 h6++[st 2 (oW a),st 6 (oW b),st 0 (zl A x)]) (rz 2 x)
theorem AKU(a:E 312 [r0] z (slF 5 (Tr.pvs aa)) A)(b:Hm 27 K m1 m2 (slF 5 (Tr.pvs aa)) A x):Ht 320 σ x A:=
 Br bu (AjV J O W h4 h5 h6++[st 2 (oW a),st 6 (oW b),st 0 (zl A x)]) (rz 2 x)
end
section
variable(h4:Hi 0 σ false)(h5:Hb 285 [91] σ false z)
include h4 h5
def rR:List Stp:=bE J O++[st 4 (oW1 W),st 3 (oW h4),st 7 (oW h4),st 3 (oW h5)]
theorem AKT(d:Hb 285 [108,101,110] z true A)(h:Hq 270 [40] A D)(b:Ht 316 D x M)(f:Hq 270 [41] M σ5)(a:Hm 23 [] m1 m2 (slF 5 [x.pv]) σ5 G):Ht 320 σ G σ5:=
 Br bu (rR J O W h4 h5++[st 3 (oW d),st 3 (oW h),st 1 (oW b),sp 1 (BD x),st 1 (oW f),st 3 (QS σ5 (AL x)),st 0 (bz1 σ5 x),st 0 (wm a),st 0 (zl σ5 G)]) (rz 2 G)
section
variable(h6:Hb 285 [108,101,110] z false A)
include h6
theorem AKS(a:Hb 285 [40] A true D)(b:Ht 299 D x M)(d:Hq 270 [41] M σ5):Ht 320 σ x σ5:=
 Br bu (rR J O W h4 h5++[st 3 (oW h6),st 3 (oW a),st 3 (oW b),sp 1 (BD x),st 1 (oW d),st 0 (QS σ5 (AL x)),st 0 (zl σ5 x)]) (rz 2 x)
theorem AKR(a:Hb 285 [40] A false D)(b:E 237 [r0,I 5,.str []] D (.tuple []) M)(d:Ht 286 M x M):Ht 320 σ x M:=
 Br bu (rR J O W h4 h5++[st 3 (oW h6),st 3 (oW a),st 3 (oW b),st 1 (oW d),st 0 (zl M x)]) (rz 2 x)
end
end
end
end
end
def BYO:Rn 311 a311:=rn
def AWO(a:E 231 [r0,I 1] σ t1.pv σ)(d:(t1.k:Int)=3)(b:E 268 [r0,t1.pv] σ (.str K) σ):E 311 [r0,.str w] σ (.bool (K==w)) σ:=
 rule BYO [st 2 (oW a),sp 4 (Bz .i64 d),sg 3 (oW b)]
def AWN(a:E 231 [r0,I 1] σ t1.pv σ)(b:(t1.k:Int)≠3):Hb 311 w σ false σ:=
 rule BYO [st 2 (oW a),sp 4 (Bb .i64 b)]
def BYN:Rn 312 a312:=rn
def AWM(a:Hq 270 [40] σ z)(d:Hw [.str [41]] z true)(b:Hq 270 [41] z A):E 312 [r0] σ .nils A:=
 rule BYN [st 2 (oW a),st 3 (oW1 d),st 3 (oW b)]
def AWL(a:Hq 270 [40] σ z)(f:Hw [.str [41]] z false)(b:E 272 [r0,.func 299 [r0] []] z (slF 5 (Tr.pvs aa)) A)(d:Hq 270 [41] A D):E 312 [r0] σ (slF 5 (Tr.pvs aa)) D:=
 rule BYN [st 2 (oW a),st 3 (oW1 f),st 5 (oW b),st 2 (oW d)]
def R77:Rn 277 kK:=rn
def AkI(a:Hp σ m1 m2)(h:Hb 285 [123] σ true z)(f:LL kK 0 [(0,r0),(2,Z1),(3,N m1),(4,N m2),(5,nils)] z (.exit 0) [(0,r0),(2,Z1),(3,N m1),(4,N m2),(5,BI 5 F)] A)(b:Hq 270 [125] A D)(d:E 274 [r0,I 11,.str [],N m1,N m2,Ci 5 F] D x.pv D):Ht 277 σ x D:=
 Br R77 [st 2 (oW a),st 6 (oW h),sl 3 [0,2,3,4,5] f,st 1 (oW b),sp 3 (jK 5 F),st 0 (oW d),st 0 (zl D x)] (rz 2 x)
def Bv8(a:Hp σ m1 m2)(f:Hb 285 [123] σ false z)(b:E 237 [r0,I 4,.str [123]] z (.tuple []) A)(d:Hm 11 [] m1 m2 .nils A x):Ht 277 σ x A:=
 Br R77 [st 2 (oW a),st 6 (oW f),st 3 (oW b),st 3 (oW d),st 0 (zl A x)] (rz 2 x)
def dC(a:Hw [.str [125],.str [112,114,111,99],.str [114,101,99,111,114,100]] A true):LL kK 0 [(0,r0),(2,Z1),(3,N m1),(4,N m2),(5,BI 5 F)] A (.exit 0) [(0,r0),(2,Z1),(3,N m1),(4,N m2),(5,BI 5 F)] A:=
 Bw [0,2,3,4,5] [st 2 (oW1 a)]
section
variable(J:Hw [.str [125],.str [112,114,111,99],.str [114,101,99,111,114,100]] A false)
include J
theorem dB(a:Hi 5 A true):LL kK 0 [(0,r0),(2,Z1),(3,N m1),(4,N m2),(5,BI 5 F)] A (.exit 0) [(0,r0),(2,Z1),(3,N m1),(4,N m2),(5,BI 5 F)] A:=
 Bw [0,2,3,4,5] [st 2 (oW1 J),sg 3 (oW a)]
theorem Yl(a:Hi 5 A false)(b:Ht 290 A x D)(U:F.length+1<=Bo)(d:LL kK 0 [(0,r0),(2,Z1),(3,N m1),(4,N m2),(5,BI 5 (F++[x.pv]))] D e X σ'):LL kK 0 [(0,r0),(2,Z1),(3,N m1),(4,N m2),(5,BI 5 F)] A e X σ':=
 BC [0,2,3,4,5] [st 2 (oW1 J),sg 3 (oW a),sp 3 (JD 5 F),st 1 (oW b),st 0 (bz1 D x),st 0 (aT x D U),sp 0 (JD 5 (F++[x.pv]))] d
end
def R105:Rn 272 p9:=rn
def r105(d:pur g=false)(a:E g [r0] σ x.pv z)(b:LL p9 0 [(0,r0),(1,func g [r0] []),(5,slice true 5 [x.pv])] z (.exit 0) [(1,func g [r0] []),(5,slice true 5 (Tr.pvs aa))] A):E 272 [r0,.func g [r0] []] σ (slF 5 (Tr.pvs aa)) A:=
 rule R105 [st 2 (Oh a d:Bt pur run (.w .DC) [.func g [r0] []] σ [some x.pv] z),st 0 (bz1 z x),sl 1 [0,1,5] b]
def We(a:Hb 285 [44] A true D)(f:pur g=false)(d:E g [r0] D x.pv M)(U:aa.length+1<=Bo)(b:LL p9 0 [(0,r0),(1,func g [r0] []),(5,slice true 5 (Tr.pvs (aa++[x])))] M e X σ'):LL p9 0 [(0,r0),(1,func g [r0] []),(5,slice true 5 (Tr.pvs aa))] A e X σ':=
 BC [0,1,5] [st 1 (oW a),st 3 (Oh d f:Bt pur run (.w .DC) [.func g [r0] []] D [some x.pv] M),st 0 (bz1 M x),sp 0 (Ke true x U)] b
def ZA(a:Hb 285 [44] A false D):LL p9 0 [(0,r0),(1,func g [r0] []),(5,slice true 5 (Tr.pvs aa))] A (.exit 0) [(1,func g [r0] []),(5,slice true 5 (Tr.pvs aa))] D:=
 Bw [1,5] [st 1 (oW a)]
def R69:Rn 308 kJ:=rn
section
variable{ws:List (List UInt8)}
def r69(a:Hp σ m1 m2)(f:pur g=false)(d:E g [r0] σ x.pv z)(b:LL kJ 0 [(0,r0),(1,func g [r0] []),(2,slice false 1 (ws.map PV.str)),(6,Z1),(7,N m1),(8,N m2),(9,x.pv)] z (.exit 0) [(0,r0),(1,func g [r0] []),(6,Z1),(9,G.pv)] A):E 308 [r0,.func g [r0] [],slF 1 (ws.map PV.str)] σ G.pv A:=
 Br R69 [st 2 (oW a),st 6 (Oh d f:Bt pur run (.w .DC) [.func g [r0] []] σ [some x.pv] z),st 1 (zl z x),sl 0 [0,1,2,6,7,8,9] b,sp 0 (EQ G),st 0 (zl A G)] (rz 6 G)
def Yn(a:E 234 [r0,slF 1 (ws.map PV.str)] A (.bool true) A)(b:Hs 278 A K D)(d:pur g=false)(f:E g [r0] D G.pv M)(h:Hm 29 K m1 m2 (slF 5 [x.pv,G.pv]) M Y)(i:LL kJ 0 [(0,r0),(1,func g [r0] []),(2,slice false 1 (ws.map PV.str)),(6,Z1),(7,N m1),(8,N m2),(9,Y.pv)] M e X σ'):LL kJ 0 [(0,r0),(1,func g [r0] []),(2,slice false 1 (ws.map PV.str)),(6,Z1),(7,N m1),(8,N m2),(9,x.pv)] A e X σ':=
 BC [0,1,2,6,7,8,9] [st 2 (oW a),st 2 (oW b),st 2 (Oh f d:Bt pur run (.w .DC) [.func g [r0] []] D [some G.pv] M),sp 1 (BD G),sp 4 (EQ x),st 0 (QS M (AL G)),st 0 (bz2 M x G),st 0 (wm h),sp 0 (Iz x Y)] i
def dE(a:E 234 [r0,slF 1 (ws.map PV.str)] A (.bool false) A):LL kJ 0 [(0,r0),(1,func g [r0] []),(2,slice false 1 (ws.map PV.str)),(6,Z1),(7,N m1),(8,N m2),(9,x.pv)] A (.exit 0) [(0,r0),(1,func g [r0] []),(6,Z1),(9,x.pv)] A:=
 Bw [0,1,6,9] [st 2 (oW a)]
end
def R38:Rn 290 RO:=rn
def BwO(a:Hw [.str [118,97,114]] σ true)(b:Ht 297 σ x z):Ht 290 σ x z:=
 Br R38 [st 3 (oW1 a),st 3 (oW b),st 0 (zl z x)] (rz 2 x)
section
variable(J:Hw [.str [118,97,114]] σ false)
include J
theorem BwN(a:Hw [.str [105,102]] σ true)(b:Ht 298 σ x z):Ht 290 σ x z:=
 Br R38 [st 3 (oW1 J),st 4 (oW1 a),st 3 (oW b),st 0 (zl z x)] (rz 2 x)
section
variable(O:Hw [.str [105,102]] σ false)
include O
def rQ:List Stp:=[st 3 (oW1 J),st 4 (oW1 O)]
theorem BwM(b:Hw [.str [119,104,105,108,101]] σ true)(d:Hp σ m1 m2)(i:Hs 278 σ K z)(h:Ht 299 z x A)(a:Ht 277 A G D)(f:Hm 15 [] m1 m2 (slF 5 [x.pv,G.pv]) D Y):Ht 290 σ Y D:=
 Br R38 (rQ J O++[st 4 (oW1 b),st 3 (oW d),st 6 (oW i),st 1 (oW h),sp 1 (BD x),st 1 (oW a),sp 1 (BD G),st 3 (QS D (AL x)),st 0 (QS D (AL G)),st 0 (bz2 D x G),st 0 (wm f),st 0 (zl D Y)]) (rz 2 Y)
section
variable(W:Hw [.str [119,104,105,108,101]] σ false)
include W
theorem BwL(b:Hw [.str [102,111,114]] σ true)(a:Ht 300 σ x z):Ht 290 σ x z:=
 Br R38 (rQ J O++[st 4 (oW1 W),st 4 (oW1 b),st 3 (oW a),st 0 (zl z x)]) (rz 2 x)
section
variable(h4:Hw [.str [102,111,114]] σ false)
include h4
def rP:List Stp:=rQ J O++[st 4 (oW1 W),st 4 (oW1 h4)]
theorem AkL(a:Hw [.str [114,101,116,117,114,110],.str [97,115,115,101,114,116]] σ true)(b:Ht 301 σ x z):Ht 290 σ x z:=
 Br R38 (rP J O W h4++[st 4 (oW1 a),st 3 (oW b),st 0 (zl z x)]) (rz 2 x)
section
variable(h5:Hw [.str [114,101,116,117,114,110],.str [97,115,115,101,114,116]] σ false)
include h5
theorem BwK(b:Hi 0 σ true)(a:Ht 302 σ x z):Ht 290 σ x z:=
 Br R38 (rP J O W h4++[st 4 (oW1 h5),st 3 (oW b),st 3 (oW a),st 0 (zl z x)]) (rz 2 x)
theorem BwJ(d:Hi 0 σ false)(a:E 237 [r0,I 6,.str []] σ (.tuple []) z)(b:Hp z m1 m2)(h:LL RO 0 [(0,r0),(2,Z1),(7,N m1),(8,N m2)] z (.exit 1) [(0,r0),(2,Z1),(7,N m1),(8,N m2)] A)(f:Hm 1 [] m1 m2 .nils A x):Ht 290 σ x A:=
 Br R38 (rP J O W h4++[st 4 (oW1 h5),st 3 (oW d),st 3 (oW a),st 1 (oW b),sl 5 [0,2,7,8] h,st 3 (oW f),st 0 (zl A x)]) (rz 2 x)
end
end
end
end
end
def ed(a:E 233 [r0,I 5] (pc s ls V U wr H::T) (.bool true) (pc s ls V U wr H::T)):LL RO 0 [(0,r0),(2,Z1),(7,N m1),(8,N m2)] (pc s ls V U wr H::T) (.exit 1) [(0,r0),(2,Z1),(7,N m1),(8,N m2)] (pc s ls V U wr H::T):=
 Bw [0,2,7,8] [st 1 (oW a)]
section
variable(J:E 233 [r0,I 5] (pc s ls V U wr H::T) (.bool false) (pc s ls V U wr H::T))
include J
theorem d9(a:(V:Int)=(m1:Int))(b:E 234 [r0,slF 1 [.str [125],.str [112,114,111,99],.str [114,101,99,111,114,100]]] (pc s ls V U wr H::T) (.bool true) (pc s ls V U wr H::T)):LL RO 0 [(0,r0),(2,Z1),(7,N m1),(8,N m2)] (pc s ls V U wr H::T) (.exit 1) [(0,r0),(2,Z1),(7,N m1),(8,N m2)] (pc s ls V U wr H::T):=
 Bw [0,2,7,8] [st 1 (oW J),sq 7 (Bz .i64 a),sp 12 (Bz .i64 a),sg 3 (FR b:Bt pur run (.w (.call 234)) [r0,.slice true 1 [.str [125],.str [112,114,111,99],.str [114,101,99,111,114,100]]] (pc s ls V U wr H::T) [some (.bool true)] (pc s ls V U wr H::T))]
theorem dZ(b:(V:Int)≠(m1:Int))(a:E 303 [r0] (pc s ls V U wr H::T) (.bool true) (pc s ls V U wr H::T)):LL RO 0 [(0,r0),(2,Z1),(7,N m1),(8,N m2)] (pc s ls V U wr H::T) (.exit 1) [(0,r0),(2,Z1),(7,N m1),(8,N m2)] (pc s ls V U wr H::T):=
 Bw [0,2,7,8] [st 1 (oW J),sq 7 (Bb .i64 b),sg 2 (oW a)]
section
variable(c1:(V:Int)=(m1:Int))(O:E 234 [r0,slF 1 [.str [125],.str [112,114,111,99],.str [114,101,99,111,114,100]]] (pc s ls V U wr H::T) (.bool false) (pc s ls V U wr H::T))(W:E 278 [r0] (pc s ls V U wr H::T) (.str K) A)
include c1 O W
def AjU:List Stp:=[st 1 (oW J),sq 7 (Bz .i64 c1),sp 12 (Bz .i64 c1),sg 3 (FR O:Bt pur run (.w (.call 234)) [r0,.slice true 1 [.str [125],.str [112,114,111,99],.str [114,101,99,111,114,100]]] (pc s ls V U wr H::T) [some (.bool false)] (pc s ls V U wr H::T)),sg 3 (oW W)]
theorem dY(c2:K=[59]):LL RO 0 [(0,r0),(2,Z1),(7,N m1),(8,N m2)] (pc s ls V U wr H::T) (.exit 1) [(0,r0),(2,Z1),(7,N m1),(8,N m2)] A:=
 Bw [0,2,7,8] (AjU J c1 O W++[sq 0 (Jb c2)])
theorem YI(c2:K≠[59])(a:LL RO 0 [(0,r0),(2,Z1),(7,N m1),(8,N m2)] A e X σ'):LL RO 0 [(0,r0),(2,Z1),(7,N m1),(8,N m2)] (pc s ls V U wr H::T) e X σ':=
 BC [0,2,7,8] (AjU J c1 O W++[sq 0 (II c2)]) a
end
section
variable(c1:(V:Int)≠(m1:Int))(O:E 303 [r0] (pc s ls V U wr H::T) (.bool false) (pc s ls V U wr H::T))(W:E 278 [r0] (pc s ls V U wr H::T) (.str K) A)
include c1 O W
def AjT:List Stp:=[st 1 (oW J),sq 7 (Bb .i64 c1),sg 2 (oW O),sp 9 (Bb .i64 c1),sg 7 (oW W)]
theorem dX(c2:K=[59]):LL RO 0 [(0,r0),(2,Z1),(7,N m1),(8,N m2)] (pc s ls V U wr H::T) (.exit 1) [(0,r0),(2,Z1),(7,N m1),(8,N m2)] A:=
 Bw [0,2,7,8] (AjT J c1 O W++[sq 0 (Jb c2)])
theorem YH(c2:K≠[59])(a:LL RO 0 [(0,r0),(2,Z1),(7,N m1),(8,N m2)] A e X σ'):LL RO 0 [(0,r0),(2,Z1),(7,N m1),(8,N m2)] (pc s ls V U wr H::T) e X σ':=
 BC [0,2,7,8] (AjT J c1 O W++[sq 0 (II c2)]) a
end
end
def R54:Rn 238 Wp:=rn
def r54(a:Hp σ m1 m2)(b:LL Wp 0 [(0,r0),(1,func g [] [.ref q 0]),(4,Z1),(5,N m1),(6,N m2)] σ (.exit 0) [(0,r0),(4,Z1),(5,N m1),(6,N m2)] z)(d:Hm 1 [] m1 m2 .nils z x):E 238 [r0,.func g [] [.ref q 0]] σ x.pv z:=
 Br R54 [st 2 (oW a),sl 5 [0,1,4,5,6] b,st 3 (oW d),st 0 (zl z x)] (rz 4 x)
def dJ(a:E 233 [r0,I 5] (pc s ls V U wr H::T) (.bool true) (pc s ls V U wr H::T)):LL Wp 0 [(0,r0),(1,func g [] [.ref q 0]),(4,Z1),(5,N m1),(6,N m2)] (pc s ls V U wr H::T) (.exit 0) [(0,r0),(4,Z1),(5,N m1),(6,N m2)] (pc s ls V U wr H::T):=
 Bw [0,4,5,6] [st 1 (oW a)]
section
variable(J:E 233 [r0,I 5] (pc s ls V U wr H::T) (.bool false) (pc s ls V U wr H::T))
include J
theorem Yr(b:(V:Int)=(m1:Int))(a:E 278 [r0] (pc s ls V U wr H::T) (.str K) z)(d:LL Wp 0 [(0,r0),(1,func g [] [.ref q 0]),(4,Z1),(5,N m1),(6,N m2)] z e X σ'):LL Wp 0 [(0,r0),(1,func g [] [.ref q 0]),(4,Z1),(5,N m1),(6,N m2)] (pc s ls V U wr H::T) e X σ':=
 BC [0,1,4,5,6] [st 1 (oW J),sq 7 (Bz .i64 b),st 8 (oW a)] d
section
variable(c1:(V:Int)≠(m1:Int))(pg:pur g=false)
include c1 pg
theorem dI(a:E g [.ref q 0] (pc s ls V U wr H::T) (.bool true) (pc s ls V U wr H::T)):LL Wp 0 [(0,r0),(1,func g [] [.ref q 0]),(4,Z1),(5,N m1),(6,N m2)] (pc s ls V U wr H::T) (.exit 0) [(0,r0),(4,Z1),(5,N m1),(6,N m2)] (pc s ls V U wr H::T):=
 Bw [0,4,5,6] [st 1 (oW J),sq 7 (Bb .i64 c1),sg 2 (Oh a pg:Bt pur run (.w .DC) [.func g [] [.ref q 0]] (pc s ls V U wr H::T) [some (.bool true)] (pc s ls V U wr H::T))]
theorem Yq(a:E g [.ref q 0] (pc s ls V U wr H::T) (.bool false) (pc s ls V U wr H::T))(b:E 278 [r0] (pc s ls V U wr H::T) (.str K) z)(d:LL Wp 0 [(0,r0),(1,func g [] [.ref q 0]),(4,Z1),(5,N m1),(6,N m2)] z e X σ'):LL Wp 0 [(0,r0),(1,func g [] [.ref q 0]),(4,Z1),(5,N m1),(6,N m2)] (pc s ls V U wr H::T) e X σ':=
 BC [0,1,4,5,6] [st 1 (oW J),sq 7 (Bb .i64 c1),sg 2 (Oh a pg:Bt pur run (.w .DC) [.func g [] [.ref q 0]] (pc s ls V U wr H::T) [some (.bool false)] (pc s ls V U wr H::T)),st 5 (oW b)] d
end
end
def R55:Rn 239 a239:=rn
def r55(b:Dq (.ld 1 false) [.ref q 0] σ=some [some r0])(a:Hw [.str [112,114,111,99],.str [114,101,99,111,114,100]] σ b1):E 239 [.ref q 0] σ (.bool b1) σ:=
 rule R55 [st 1 (QS σ b),st 1 (oW1 a)]
def R23:Rn 156 a156:=rn
def r23(b:Dq (.ld 1 false) [.ref (T.length+1) 0] (pc s ls k l wr bf::(T++[[r0]]))=some [some r0])(a:LL a156 0 [(1,ref (T.length+1) 0),(2,Z1),(3,agg [I 2,.str [],I 0,N s.length,.nils])] (pc s ls k l wr bf::(T++[[r0]])) (.exit 0) [(1,ref (T.length+1) 0),(2,Z1),(3,agg [I 2,.str [],I 0,N s.length,BI 5 F])] z):E 156 [r0] (pc s ls k l wr bf::T) (.agg [I 2,.str [],I 0,N s.length,Ci 5 F]) z:=
 Br R23 [st 2 (QS (pc s ls k l wr bf::(T++[[r0]])) b),sl 7 [1,2,3] a,st 0 (GK (Az0):Bt pur run (.p (.ldl 0 5 true)) [.agg [I 2,.str [],I 0,N s.length,BI 5 F]] z [some (.agg [I 2,.str [],I 0,N s.length,Ci 5 F])] z),st 0 (GK (iZ (by simp) (by simp) (by simp) (by simp[upd])):Bt pur run (.p (.stl 0 5)) [Z1,.agg [I 2,.str [],I 0,N s.length,Ci 5 F]] z [some (.agg [I 2,.str [],I 0,N s.length,Ci 5 F])] z)] (by simp[Et,CX]:(FE [(2,agg [I 2,.str [],I 0,N s.length,Ci 5 F])] [(2,some 5)]).bind CX=some (.agg [I 2,.str [],I 0,N s.length,Ci 5 F]))
section
variable(x1:Dq (.ld 1 false) [.ref (T.length+1) 0] z=some [some r0])
include x1
theorem eG(a:Hi 5 z true):LL a156 0 [(1,ref (T.length+1) 0),(2,Z1),(3,agg [I 2,.str [],I 0,N s.length,BI 5 F])] z (.exit 0) [(1,ref (T.length+1) 0),(2,Z1),(3,agg [I 2,.str [],I 0,N s.length,BI 5 F])] z:=
 Bw [1,2,3] [st 0 (QS z x1),st 0 (oW a)]
section
variable(J:Hi 5 z false)
include J
def rW:List Stp:=[st 0 (QS z x1),st 0 (oW J),st 2 (QS z x1)]
theorem YZ(a:Hw [.str [114,101,99,111,114,100]] z true)(b:Ht 235 z x A)(U:F.length+1<=Bo)(d:LL a156 0 [(1,ref (T.length+1) 0),(2,Z1),(3,agg [I 2,.str [],I 0,N s.length,BI 5 (F++[x.pv])])] A e X σ'):LL a156 0 [(1,ref (T.length+1) 0),(2,Z1),(3,agg [I 2,.str [],I 0,N s.length,BI 5 F])] z e X σ':=
 BC [1,2,3] (rW x1 J++[st 1 (oW1 a),st 3 (GK (TM):Bt pur run (.p (.ldfo 3)) [.lref 3 4,.agg [I 2,.str [],I 0,N s.length,BI 5 F]] z [some (BI 5 F),some (.agg [I 2,.str [],I 0,N s.length,Ci 5 F])] z),st 0 (QS z x1),st 0 (oW b),st 0 (bz1 A x),st 0 (aT x A U),st 1 (GK (SB):Bt pur run (.p (.stfo 3)) [.lref 3 4,.agg [I 2,.str [],I 0,N s.length,Ci 5 F],BI 5 (F++[x.pv])] A [some (.agg [I 2,.str [],I 0,N s.length,BI 5 (F++[x.pv])]),some (Ci 5 (F++[x.pv]))] A)]) d
section
variable(O:Hw [.str [114,101,99,111,114,100]] z false)
include O
def rV:List Stp:=rW x1 J++[st 1 (oW1 O),st 2 (QS z x1)]
theorem YY(b:Hw [.str [112,114,111,99]] z true)(d:Ht 236 z x A)(U:F.length+1<=Bo)(a:LL a156 0 [(1,ref (T.length+1) 0),(2,Z1),(3,agg [I 2,.str [],I 0,N s.length,BI 5 (F++[x.pv])])] A e X σ'):LL a156 0 [(1,ref (T.length+1) 0),(2,Z1),(3,agg [I 2,.str [],I 0,N s.length,BI 5 F])] z e X σ':=
 BC [1,2,3] (rV x1 J O++[st 1 (oW1 b),st 3 (GK (TM):Bt pur run (.p (.ldfo 3)) [.lref 3 4,.agg [I 2,.str [],I 0,N s.length,BI 5 F]] z [some (BI 5 F),some (.agg [I 2,.str [],I 0,N s.length,Ci 5 F])] z),st 0 (QS z x1),st 0 (oW d),st 0 (bz1 A x),st 0 (aT x A U),st 1 (GK (SB):Bt pur run (.p (.stfo 3)) [.lref 3 4,.agg [I 2,.str [],I 0,N s.length,Ci 5 F],BI 5 (F++[x.pv])] A [some (.agg [I 2,.str [],I 0,N s.length,BI 5 (F++[x.pv])]),some (Ci 5 (F++[x.pv]))] A)]) a
theorem YX(d:Hw [.str [112,114,111,99]] z false)(f:E 237 [r0,I 7,.str []] z (.tuple []) A)(a:Dq (.ld 1 false) [.ref (T.length+1) 0] A=some [some r0])(b:E 238 [r0,.func 239 [] [.ref (T.length+1) 0]] A x.pv D)(U:F.length+1<=Bo)(h:LL a156 0 [(1,ref (T.length+1) 0),(2,Z1),(3,agg [I 2,.str [],I 0,N s.length,BI 5 (F++[x.pv])])] D e X σ'):LL a156 0 [(1,ref (T.length+1) 0),(2,Z1),(3,agg [I 2,.str [],I 0,N s.length,BI 5 F])] z e X σ':=
 BC [1,2,3] (rV x1 J O++[st 1 (oW1 d),st 2 (QS z x1),st 0 (oW f),st 1 (GK (TM):Bt pur run (.p (.ldfo 3)) [.lref 3 4,.agg [I 2,.str [],I 0,N s.length,BI 5 F]] A [some (BI 5 F),some (.agg [I 2,.str [],I 0,N s.length,Ci 5 F])] A),st 0 (QS A a),st 1 (oW b),st 0 (bz1 D x),st 0 (aT x D U),st 1 (GK (SB):Bt pur run (.p (.stfo 3)) [.lref 3 4,.agg [I 2,.str [],I 0,N s.length,Ci 5 F],BI 5 (F++[x.pv])] D [some (.agg [I 2,.str [],I 0,N s.length,BI 5 (F++[x.pv])]),some (Ci 5 (F++[x.pv]))] D)]) h
end
end
end
def R53:Rn 237 a237:=rn
def AKJ(a:E 231 [r0,I 0] (pc s ls k l .nils bf::T) t1.pv (pc s ls k l .nils bf::T))(d:(t1.a:Int)≠bf):E 237 [r0,N c,.str tx] (pc s ls k l .nils bf::T) (.tuple []) (pc s ls k l (.arr (T.length+1) 0 0 1 5) (t1.a:Int)::(T++[[.arrv 0 5 [.agg [N c,N t1.a,N t1.e,.str tx,.nils]]]])):=
 rule R53 [st 1 (oW a),sp 8 (C8 .i64 d),st 14 (UV rfl:Bt pur run (.w (.Gj 5)) [.nils,.slice true 5 [.agg [N c,N t1.a,N t1.e,.str tx,.nils]]] (pc s ls k l .nils bf::T) [some (.arr (T.length+1) 0 0 1 5)] (pc s ls k l .nils bf::(T++[[.arrv 0 5 [.agg [N c,N t1.a,N t1.e,.str tx,.nils]]]]))),st 2 (stW (by first | rfl | exact b):Bt pur run (.w (.st 1)) [.ref 0 4,.arr (T.length+1) 0 0 1 5] (pc s ls k l .nils bf::(T++[[.arrv 0 5 [.agg [N c,N t1.a,N t1.e,.str tx,.nils]]]])) [] (pc s ls k l (.arr (T.length+1) 0 0 1 5) bf::(T++[[.arrv 0 5 [.agg [N c,N t1.a,N t1.e,.str tx,.nils]]]]))),st 5 (stB (by first | rfl | exact b):Bt pur run (.w (.st 1)) [.ref 0 5,N t1.a] (pc s ls k l (.arr (T.length+1) 0 0 1 5) bf::(T++[[.arrv 0 5 [.agg [N c,N t1.a,N t1.e,.str tx,.nils]]]])) [] (pc s ls k l (.arr (T.length+1) 0 0 1 5) (t1.a:Int)::(T++[[.arrv 0 5 [.agg [N c,N t1.a,N t1.e,.str tx,.nils]]]])))]
def AKL{g:Nat}(f:Ds.length=n)(h:n+1<=Bo){t1:Tk}(a:E 231 [r0,I 0] (pc s ls k l (.arr (B.length+1) g 0 n 5) bf::(B++[[.arrv g 5 Ds]])) t1.pv (pc s ls k l (.arr (B.length+1) g 0 n 5) bf::(B++[[.arrv g 5 Ds]])))(d:(t1.a:Int)≠bf):E 237 [r0,N c,.str tx] (pc s ls k l (.arr (B.length+1) g 0 n 5) bf::(B++[[.arrv g 5 Ds]])) (.tuple []) (pc s ls k l (.arr (B.length+1) (g+1) 0 (n+1) 5) (t1.a:Int)::(B++[[.arrv (g+1) 5 (Ds++[.agg [N c,N t1.a,N t1.e,.str tx,.nils]])]])):=
 rule R53 [st 1 (oW a),sp 8 (C8 .i64 d),st 14 (UW rfl f h:Bt pur run (.w (.Gj 5)) [.arr (B.length+1) g 0 n 5,.slice true 5 [.agg [N c,N t1.a,N t1.e,.str tx,.nils]]] (pc s ls k l (.arr (B.length+1) g 0 n 5) bf::(B++[[.arrv g 5 Ds]])) [some (.arr (B.length+1) (g+1) 0 (n+1) 5)] (pc s ls k l (.arr (B.length+1) g 0 n 5) bf::(B++[[.arrv (g+1) 5 (Ds++[.agg [N c,N t1.a,N t1.e,.str tx,.nils]])]]))),st 2 (stW (by first | rfl | exact b):Bt pur run (.w (.st 1)) [.ref 0 4,.arr (B.length+1) (g+1) 0 (n+1) 5] (pc s ls k l (.arr (B.length+1) g 0 n 5) bf::(B++[[.arrv (g+1) 5 (Ds++[.agg [N c,N t1.a,N t1.e,.str tx,.nils]])]])) [] (pc s ls k l (.arr (B.length+1) (g+1) 0 (n+1) 5) bf::(B++[[.arrv (g+1) 5 (Ds++[.agg [N c,N t1.a,N t1.e,.str tx,.nils]])]]))),st 5 (stB (by first | rfl | exact b):Bt pur run (.w (.st 1)) [.ref 0 5,N t1.a] (pc s ls k l (.arr (B.length+1) (g+1) 0 (n+1) 5) bf::(B++[[.arrv (g+1) 5 (Ds++[.agg [N c,N t1.a,N t1.e,.str tx,.nils]])]])) [] (pc s ls k l (.arr (B.length+1) (g+1) 0 (n+1) 5) (t1.a:Int)::(B++[[.arrv (g+1) 5 (Ds++[.agg [N c,N t1.a,N t1.e,.str tx,.nils]])]])))]
def AKK{g:Nat}(f:Ds.length=n)(h:n+1<=Bo){t1:Tk}(b:E 231 [r0,I 0] (pc s ls k l (.arr (B.length+1) g 0 n 5) bf::(B++[[.arrv g 5 Ds]])) t1.pv (pc s ls k l (.arr (B.length+1) g 0 n 5) bf::(B++[[.arrv g 5 Ds]])))(a:(t1.a:Int)=bf):E 237 [r0,N c,.str tx] (pc s ls k l (.arr (B.length+1) g 0 n 5) bf::(B++[[.arrv g 5 Ds]])) (.tuple []) (pc s ls k l (.arr (B.length+1) g 0 n 5) (t1.a:Int)::(B++[[.arrv g 5 Ds]])):=
 rule R53 [st 1 (oW b),sp 8 (Dr .i64 a),st 6 (stB (by first | rfl | exact d):Bt pur run (.w (.st 1)) [.ref 0 5,N t1.a] (pc s ls k l (.arr (B.length+1) g 0 n 5) bf::(B++[[.arrv g 5 Ds]])) [] (pc s ls k l (.arr (B.length+1) g 0 n 5) (t1.a:Int)::(B++[[.arrv g 5 Ds]])))]
end
end Go.Abs.Z

namespace Go.Abs.Z
open Go.Proofs Go.RowKit
def wd(s:List UInt8)(t:Tk):List UInt8:=(s.drop t.a).take (t.e - t.a)
def wAt(s:List UInt8)(ls:List Tk)(k:Nat):Wd:=match ls[k]? with | some t=>(t.k,wd s t) | none=>(5,[])
def tA(ls:List Tk)(k:Nat):Nat:=match ls[k]? with | some t=>t.a | none=>0
def tE(ls:List Tk)(k:Nat):Nat:=match ls[k]? with | some t=>t.e | none=>0
def en(ls:List Tk):Nat->Nat
 |0=>0
 |k+1=>tE ls k
def spW:List (List UInt8):=[LG,IQ,Ow,wIf,Wy,Mg,Sm,wTo,Hd,JA,AJD,wOr,Ox,IP,Ho,NY,Km,Oy,
 [61,61],[33,61],[60],[60,61],[62],[62,61],[43],[45],[42],[47],[37],[40],[41],[123],[125],[91],[93],[44],[59],[58],[46],[61]]
def aL:List (List UInt8):=[Ow,wIf,Mg,Sm,Hd,JA]
structure CG(s:List UInt8)(ls:List Tk)(m:Nat):Prop where
 len:ls.length=m+1
 big:m<1000000
 small:s.length<1000000
 fin:∃t,ls[m]?=some t/\t.k=5/\t.e=t.a
 ord:∀(k:Nat) (t:Tk),ls[k]?=some t->t.a<=t.e/\t.e<=s.length
 inc:∀(i j:Nat) (t u:Tk),ls[i]?=some t->ls[j]?=some u->i<j->t.a<u.a/\t.e<=u.a
 kd:∀(k:Nat) (t:Tk),ls[k]?=some t->k<m->t.k<4
 sp:∀(k:Nat) (t:Tk),ls[k]?=some t->spW.contains (wd s t)=true->t.k=1\/t.k=3
 par:∀(k:Nat) (t:Tk),ls[k]?=some t->wd s t=[40]->t.k=3
 kw:∀(k:Nat) (t:Tk),ls[k]?=some t->aL.contains (wd s t)=true->t.k=1
def wrP(q:Nat)(D:List AD):PV:=match D with | []=>.nils | d::D=>.arr q D.length 0 (D.length+1) 5
def bfP(ls:List Tk)(D:List AD):Int:=match D.getLast? with | none=>-1 | some d=>(tA ls d.i:Nat)
def dgp(ls:List Tk)(d:AD):PV:=(Dg.mk d.c (tA ls d.i) (tE ls d.i) d.t).pv
def arS(ls:List Tk)(D:List AD):Sto:=match D with | []=>[] | d::D=>[[.arrv D.length 5 ((d::D).map (dgp ls))]]
def PS4(s:List UInt8)(ls:List Tk)(B:Sto)(k:Nat)(D:List AD):Sto:=pc s ls k (en ls k) (wrP (B.length+1) D) (bfP ls D)::(B++arS ls D)
section
variable{s:List UInt8}{ls:List Tk}{m:Nat}
def CG.at(H:CG s ls m){k:Nat}(h:k<=m):∃t,ls[k]?=some t:=⟨_,Af (by rw[H.len];omega)⟩
def JU{k:Nat}{t:Tk}(h:ls[k]?=some t):wAt s ls k=(t.k,wd s t):=by simp[wAt,h]
def JI{k:Nat}{t:Tk}(h:ls[k]?=some t):tA ls k=t.a:=by simp[tA,h]
def O1{k:Nat}{t:Tk}(h:ls[k]?=some t):tE ls k=t.e:=by simp[tE,h]
def CG.end'(H:CG s ls m):wAt s ls m=(5,[]):=by
 obtain⟨t,a,c,b⟩:=H.fin;rw[JU a,c];simp[wd,b]
def CG.lt(H:CG s ls m){k:Nat}(h:k<=m)(b:(wAt s ls k).1≠5):k<m:=by
 rcases Be k m with a | a
 ·exact a
 ·have:k=m:=am
  subst this;rw[H.end'] at b;exact absurd rfl b
def kP(q:Nat)(D:List AD):(wrP q D).isSelf=false:=by cases D<;>rfl
def p137(a:List (List UInt8))(x:List UInt8)(p:a.length<1000):∀(n j:Nat),j+n=a.length->(∀i,i<j->a[i]?≠some x)->
  (∃i,LL MO 0 [(0,some (slF 1 (a.map PV.str))),(1,some (.str x)),(7,some (N a.length)),(8,some (N j))] [] .ret [(4,some (N i))] []/\a.contains x=true) \/
  (LL MO 0 [(0,some (slF 1 (a.map PV.str))),(1,some (.str x)),(7,some (N a.length)),(8,some (N j))] [] (.exit 0) [(0,some (slF 1 (a.map PV.str)))] []/\a.contains x=false):=by
 intro n
 induction n with
 |zero=>
  intro j l h;refine .inr ⟨Zj am,?_⟩
  rw[<-FK,CR,BP]
  rintro⟨i,hi⟩
  have:=(Ad.1 hi).1;exact h i am hi
 |succ n o=>
  intro j l h;have b:j<a.length:=am
  have d:=Af b;by_cases c:x=a[j]
  ·refine .inl ⟨j,Zi am d c,?_⟩
   rw[CR,c];exact Cg b
  ·rcases o (j+1) am (λi hi=>by
    rcases Be i j with k | k
    ·exact h i k
    ·have:i=j:=am
     subst this;rw[d];intro e;exact c (Option.some.inj e).symm) with⟨i,g,f⟩ | ⟨g,f⟩
   ·exact .inl ⟨i,Ob am d c am g,f⟩
   ·exact .inr ⟨Ob am d c am g,f⟩
def BXL(a:List (List UInt8))(x:List UInt8)(d:a.length<1000):E 247 [slF 1 (a.map PV.str),.str x] [] (.bool (a.contains x)) []:=by
 rcases p137 a x d a.length 0 am (λi h=>am) with⟨i,b,c⟩ | ⟨b,c⟩
 ·have:=BQ6 (AW5 b);rw[c]
  rwa [decide_eq_true am] at this
 ·have:=BQ6 (AW6 b);rw[c];exact this
variable{B:Sto}{k:Nat}{D:List AD}
def p47(H:CG s ls m)(h:k<=m){j:Nat}(b:j<=1){t:Tk}(a:ls[min (k+j) m]?=some t):E 231 [.ref 0 0,N j] (PS4 s ls B k D) t.pv (PS4 s ls B k D):=by
 have:=H.big;refine r47 am am (by rw[H.len];omega) (by rw[H.len];omega) ?_
 rw[H.len];exact a
def vF(H:CG s ls m)(h:k<=m){t:Tk}(a:ls[k]?=some t):E 231 [.ref 0 0,I 0] (PS4 s ls B k D) t.pv (PS4 s ls B k D):=
 p47 H h (j:=0) am (by rw[show min (k+0) m=k by omega];exact a)
def AkP(H:CG s ls m){i:Nat}{t:Tk}(c:ls[i]?=some t){l:Nat}{wr:PV}{bf:Int}{T:Sto}:E 268 [.ref 0 0,t.pv] (pc s ls k l wr bf::T) (.str (wd s t)) (pc s ls k l wr bf::T):=by
 obtain⟨a,b⟩:=H.ord i t c;exact r102 (K8 s t.a t.e a b)
def BXE(H:CG s ls m){i:Nat}{t:Tk}(a:ls[i]?=some t):E 268 [.ref 0 0,t.pv] (PS4 s ls B k D) (.str (wd s t)) (PS4 s ls B k D):=AkP H a
def p50(H:CG s ls m)(h:k<=m)(a:List (List UInt8))(d:a.length<1000)(i:a.all spW.contains=true):E 234 [.ref 0 0,slF 1 (a.map PV.str)] (PS4 s ls B k D) (.bool (a.contains (wAt s ls k).2)) (PS4 s ls B k D):=by
 obtain⟨t,b⟩:=H.at h;have c:=vF (B:=B) (D:=D) H h b;have e:=BXE (k:=k) (B:=B) (D:=D) H b;rw[JU b];by_cases j:t.k=1
 ·exact Bw3 c am e (BXL a _ d)
 ·by_cases l:t.k=3
  ·exact Bw2 c am am e (BXL a _ d)
  ·have g:a.contains (wd s t)=false:=by
    rw[<-FK,CR];intro f;have:=H.sp k t b (Au.1 i _ f);omega
   show E 234 _ _ (.bool (a.contains (wd s t))) _;rw[g];exact Bw1 c am am
def p49(H:CG s ls m)(h:k<=m)(j:Nat):E 233 [.ref 0 0,N j] (PS4 s ls B k D) (.bool (decide ((wAt s ls k).1=j))) (PS4 s ls B k D):=by
 obtain⟨t,a⟩:=H.at h;have:=r49 (j:=(j:Int)) (vF (B:=B) (D:=D) H h a);rw[JU a]
 have e:(((t.k:Nat):Int)==(j:Int))=decide (t.k=j):=by
  by_cases b:t.k=j
  ·simp[b]
  ·rw[decide_eq_false b,beq_eq_false_iff_ne];omega
 rwa [e] at this
def p75:E 269 [.ref 0 0] (PS4 s ls B k D) (.tuple [N k,N (en ls k)]) (PS4 s ls B k D):=r75
def p76(H:CG s ls m)(h:k<m):E 278 [.ref 0 0] (PS4 s ls B k D) (.str (wAt s ls k).2) (PS4 s ls B (k+1) D):=by
 obtain⟨t,a⟩:=H.at (DJ h);have:=H.big;have:=r76 (kP _ _) (vF (B:=B) (D:=D) H (DJ h) a) am (AkP H a)
 rw[JU a];have e:en ls (k+1)=t.e:=O1 a;unfold PS4;rw[e];exact this
def lU(D:List AD)(d:AD):arS ls (D++[d])=[[.arrv D.length 5 (D.map (dgp ls)++[dgp ls d])]]/\∀q,wrP q (D++[d])=.arr q D.length 0 (D.length+1) 5:=by
 cases D with
 |nil=>exact⟨rfl,λ_=>rfl⟩
 |cons e D=>
  refine⟨?_,λq=>?_⟩
  ·show[[PV.arrv (D++[d]).length 5 ((e::(D++[d])).map (dgp ls))]]=_;simp
  ·show PV.arr q (D++[d]).length 0 ((D++[d]).length+1) 5=_;simp
def p53(H:CG s ls m)(h:k<=m)(C:∀d∈D,d.i<=m)(r:D.length<1000000000)(c:Nat)(x:List UInt8):E 237 [.ref 0 0,N c,.str x] (PS4 s ls B k D) (.tuple []) (PS4 s ls B k (rp D c k x)):=by
 obtain⟨t,f⟩:=H.at h;have b:=vF (B:=B) (D:=D) H h f;have q:tA ls k=t.a:=JI f
 have a:D.getLast?.map AD.i=some k↔((t.a:Nat):Int)=bfP ls D:=by
  unfold bfP;cases z:D.getLast? with
  |none=>simp
  |some d=>
   have o:=C d (List.mem_of_getLast? z);obtain⟨u,g⟩:=H.at o;simp only[AJ,Option.some.injEq];rw[JI g];refine⟨λe=>?_,λe=>?_⟩
   ·subst e;rw[f] at g;cases g;rfl
   ·rcases Nat.lt_trichotomy d.i k with n | p | l
    ·have:=(H.inc _ _ _ _ g f n).1;omega
    ·exact p
    ·have:=(H.inc _ _ _ _ f g l).1;omega
 unfold rp;by_cases j:D.getLast?.map AD.i=some k
 ·rw[if_pos j];have i:=a.1 j;cases D with
  |nil=>simp at j
  |cons d D=>
   have:=AKK (s:=s) (ls:=ls) (k:=k) (l:=en ls k) (B:=B) (g:=D.length) (n:=D.length+1) (Ds:=(d::D).map (dgp ls)) (bf:=bfP ls (d::D)) (c:=c) (tx:=x) (by simp) (by simp[Bo] at r ⊢;omega) b i
   unfold PS4;rw[i] at this;exact this
 ·rw[if_neg j];have i:((t.a:Nat):Int)≠bfP ls D:=λe=>j (a.2 e)
  obtain⟨v,y⟩:=lU (ls:=ls) D ⟨c,k,x⟩;have A:bfP ls (D++[⟨c,k,x⟩])=((t.a:Nat):Int):=by simp[bfP,q]
  have w:dgp ls ⟨c,k,x⟩=(.agg [N c,N t.a,N t.e,.str x,.nils]):=by
   show(Dg.mk c (tA ls k) (tE ls k) x).pv=_;rw[q,O1 f];rfl
  unfold PS4;rw[v,y,A,w];cases D with
  |nil=>
   have:=AKJ (s:=s) (ls:=ls) (k:=k) (l:=en ls k) (T:=B) (bf:=bfP ls []) (c:=c) (tx:=x) (t1:=t) (by simpa [PS4,arS,wrP] using b) i
   simpa [PS4,arS,wrP] using this
  |cons d D=>
   exact AKL (s:=s) (ls:=ls) (k:=k) (l:=en ls k) (B:=B) (g:=D.length) (n:=D.length+1) (Ds:=(d::D).map (dgp ls)) (bf:=bfP ls (d::D)) (c:=c) (tx:=x) (by simp) (by simp[Bo] at r ⊢;omega) b i
end
def by8(b:UInt8):PV:=.int .u8 ((b.toNat:Nat):Int)
def Hr:List UInt8:=[60,62,61,43,45,42,47,37,40,41,123,125,91,93,44,59,58,46]
def kwL:List (List UInt8):=[LG,IQ,Ow,wIf,Wy,Mg,Sm,wTo,Hd,JA,AJD,wOr,Ox,IP,Ho,NY,Km,Oy]
def mO:PV:=.mapv (kwL.map Ky.s) (kwL.map λ_=>.bool true)
def R153:Rn 260 a260:=rn
def e153:E 260 [] [] mO []:=rule R153 []
def AxZ(o:Bool)(s:Nat)(x:List UInt8):AQ (.len false) [.slice o s (x.map by8)]=some [some (.int .i64 (x.length:Nat))]:=by
 show some [some (PV.int .i64 ((x.map by8).length:Nat))]=_;rw[Ap]
def au{o:Bool}{s:Nat}{x:List UInt8}{c:UInt8}(j:Nat)(h:x[j]?=some c):AQ (.idx s) [.slice o s (x.map by8),.int .i64 (j:Nat)]=some [some (.vptr (.int .u8 ((c.toNat:Nat):Int)))]:=Nb _ _ _ _ _ (by rw[Al,h];rfl)
def whB(c:UInt8):Bool:=c==9||c==10||c==13||c==32
def leB(c:UInt8):Bool:=decide (97<=c.toNat)&&decide (c.toNat<=122)
def diB(c:UInt8):Bool:=decide (48<=c.toNat)&&decide (c.toNat<=57)
def woB(c:UInt8):Bool:=leB c||diB c||c==95
def skN:Bool->List UInt8->Nat
 |_,[]=>0
 |true,c::l=>if c=10 then 1+skN false l else 1+skN true l
 |false,c::l=>if whB c then 1+skN false l else if c=35 then 1+skN true l else 0
def Dc(p:UInt8->Bool)(l:List UInt8):Nat:=(l.takeWhile p).length
def Ib:List UInt8->Nat
 |[]=>0
 |a::l=>if l.head?=some 61/\(a=61\/a=33\/a=60\/a=62) then 2 else if Hr.contains a then 1 else 0
def J3(c:UInt8)(l:List UInt8):Bool:=whB c||c==35||leB c||diB c||Ib (c::l) != 0
def wrN:List UInt8->Nat
 |[]=>0
 |c::l=>if J3 c l then 0 else 1+wrN l
def Ia(l:List UInt8):Nat×Nat:=
 if leB (l.headD 0) then(if kwL.contains (l.take (Dc woB l)) then 1 else 0,Dc woB l)
 else if diB (l.headD 0) then(2,Dc diB l)
 else if 0<Ib l then(3,Ib l) else(4,1+wrN l.tail)
def JK:Nat->List UInt8->Nat->List Tk
 |0,_,_=>[]
 |n+1,l,f=>
  let k:=skN false l
  let r:=l.drop k
  if r=[] then[⟨5,f,f+k,f+k⟩] else⟨(Ia r).1,f,f+k,f+k+(Ia r).2⟩::JK n (r.drop (Ia r).2) (f+k+(Ia r).2)
def Gl(s:List UInt8):List Tk:=JK (s.length+1) s 0
end Go.Abs.Z
