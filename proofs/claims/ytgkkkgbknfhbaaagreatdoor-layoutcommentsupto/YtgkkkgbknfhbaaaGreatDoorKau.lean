/- A part of the proof: G1 G0 G2 P9. -/
import Derived.Test.YtgkkkgbknfhbaaaGreatDoorKaf
import Derived.Test.YtgkkkgbknfhbaaaGreatDoorKao
import Derived.KernelRfl
import Derived.Test.YtgkkkgbknfhbaaaGreatDoorKat

set_option linter.all false
namespace Go.Abs
open Go.RowKit
def Sub(a b:FF):Prop:=∀t v,FQ a t=some v->FQ b t=some v
def Sub.refl(a:FF):Sub a a:=λ_ _ h=>h
def Sub.trans{a b c:FF}(h:Sub a b)(k:Sub b c):Sub a c:=λt v x=>k t v (h t v x)
noncomputable def WO(ls:List Nat)(ff:FF):FF:=List.rec (motive:=λ_=>FF) [] (λt _ a=>(t,FQ ff t)::a) ls
def NH:∀(ls:List Nat) (ff:FF),Sub (WO ls ff) ff
 |[],_,_,_,h=>by cases h
 |s::ls,ff,t,v,h=>by
  have b:cond (Nat.beq s t) (FQ ff s) (FQ (WO ls ff) t)=some v:=h;cases c:Nat.beq s t with
  |true=>rw[c] at b;rw[<-CQ c];exact b
  |false=>rw[c] at b;exact NH ls ff t v b
section
variable(pur:FuncId->Bool)(R:Nat->Caller)
def Bt(k:AK)(vs:List PV)(b:Sto)(c:List (Option PV))(a:Sto):Prop:=∃N,∀n,N<=n->sem pur (R n) k vs b=some (c,a)
def Ny(c:De)(ff:FF)(f:Sto)(e:CE)(d:FF)(b:Sto):Prop:=
 ∃N,∀n,N<=n->∀ff0,Sub ff ff0->∃a,Gd pur (R n) n c ff0 f=some (e,a,b)/\Sub d a
def IM(a:List Bool)(c:De)(ff:FF)(g:Sto)(e:CE)(d:FF)(f:Sto):Prop:=
 ∃N,∀n,N<=n->∀m,N<=m->∀ff0,Sub ff ff0->∃b,fP a (Gd pur (R n) n c) m ff0 g=some (e,b,f)/\Sub d b
def Ev(f:FuncId)(args:List PV)(b:Sto)(r:PV)(a:Sto):Prop:=∃N,∀n,N<=n->R n f args b=some (r,a)
inductive Ans where
 |res (rs:List (Option PV)) (σ:Option Sto)
 |grd (d:Bool)
 |grdr (rs:List (Option PV)) (σ:Option Sto)
 |br (b:Bool)
 |loop (ls:List Nat) (e:CE) (ff:FF) (σ:Sto)
abbrev Tape:=List (Nat×Ans)
structure TO where
 e:CE
 ff:FF
 σ:Sto
 tp:Tape
 q:Prop
abbrev TX:=Option TO
noncomputable section
def Ms:Caller:=λ_ _ _=>none
def jV(d:Option Nat)(b a:List Nat)(ff:FF)(c:List (Option PV))(e:Sto):RFS:=
 cond (Nat.beq c.length (d.toList.length+b.length)) (some (Wh (d.toList++b++a) (c++a.map λ_=>none) ff,e)) (cond (d.isNone&&b.isEmpty&&a.isEmpty) (some (ff,e)) none)
def tL(a:Tape)(q:Prop)(r:RFS):TX:=Option.rec (motive:=λ_=>TX) none (λr=>some ⟨.normal,r.1,r.2,a,q⟩) r
def gS(a:Sto)(u:Option Sto):Sto:=Option.rec (motive:=λ_=>Sto) a (λx=>x) u
def WQ(k:AK)(vs:List PV)(a:Sto)(c:List (Option PV))(u:Option Sto):Prop:=Option.rec (motive:=λ_=>Prop) (∀(R:Nat->Caller) (a:Sto),Bt pur R k vs a c a) (λb=>Bt pur R k vs a c b) u
def Kr(o:AOp)(ff:FF)(b:Sto)(e:Tape)(q:Prop)(a:Ans):TX:=
 Ans.rec (motive:=λ_=>TX)
  (λc u=>Option.rec (motive:=λ_=>TX) (Option.rec (motive:=λ_=>TX) none (λvs=>tL e (WQ pur R o.k vs b c u/\q) (jV o.dst o.ex o.clr ff c (gS b u))) (EF ff o.args)) (λ_=>none) o.guard)
  (λd=>Option.rec (motive:=λ_=>TX) none (λg=>tL e (H9 (FQ ff g.1) g.2=some d/\q) (cond d (Kz pur Ms o ff b) (cond (o.ex.isEmpty&&o.clr.isEmpty) (some (Wh o.wr [some Li] ff,b)) none))) o.guard)
  (λc u=>Option.rec (motive:=λ_=>TX) none (λg=>Option.rec (motive:=λ_=>TX) none (λvs=>tL e (WQ pur R o.k vs b c u/\H9 (FQ ff g.1) g.2=some true/\q) (jV o.dst o.ex o.clr ff c (gS b u))) (EF ff o.args)) o.guard)
  (λ_=>none) (λ_ _ _ _=>none) a
def kV{b:Type}(d:Tape)(a:Tape->b)(c:Tape->Ans->b):b:=
 List.rec (motive:=λ_=>b) (a []) (λx d _=>Nat.rec (motive:=λ_=>b) (c d x.2) (λn _=>a ((n,x.2)::d)) x.1) d
def tOp(o:AOp)(ff:FF)(c:Sto)(b:Tape)(q:Prop):TX:=
 kV b (λb=>tL b q (Jk pur Ms o ff c)) (λb a=>Kr pur R o ff c b q a)
def UH(r:TX)(k:FF->Sto->Tape->Prop->TX):TX:=
 Option.rec (motive:=λ_=>TX) none (λr=>cond (Hy r.e) (k r.ff r.σ r.tp r.q) (some r)) r
def tY(c:List AOp):FF->Sto->Tape->Prop->TX:=
 List.rec (motive:=λ_=>FF->Sto->Tape->Prop->TX) (λff b a q=>some ⟨.normal,ff,b,a,q⟩) (λo _ d ff b a q=>UH (tOp pur R o ff b a q) d) c
def bH(c:CW)(x y:FF->Sto->Tape->Prop->TX)(ff:FF)(e:Sto)(d:Tape)(q:Prop):TX:=
 kV d (λd=>match EF ff [c] with
  |some [.bool b]=>cond b (x ff e d q) (y ff e d q)
  |_=>none)
  (λd a=>Ans.rec (motive:=λ_=>TX) (λ_ _=>none) (λ_=>none) (λ_ _=>none) (λb=>cond b (x ff e d (EF ff [c]=some [.bool b]/\q)) (y ff e d (EF ff [c]=some [.bool b]/\q))) (λ_ _ _ _=>none) a)
def iW(id:Nat)(r:TX):TX:=
 Option.rec (motive:=λ_=>TX) none (λr=>CE.rec (motive:=λ_=>TX) (some r) (λi=>cond (Nat.beq i id) (some ⟨.normal,r.ff,r.σ,r.tp,r.q⟩) (some r)) (some r) r.e) r
def tZ(b:List Bool)(c:De)(ff:FF)(h:Sto)(g:Tape)(q:Prop):TX:=
 kV g (λ_=>none) (λg a=>Ans.rec (motive:=λ_=>TX) (λ_ _=>none) (λ_=>none) (λ_ _=>none) (λ_=>none)
  (λls e d f=>some ⟨e,d,f,g,IM pur R b c (WO ls (F7 ff b 0)) h e d f/\q⟩) a)
def Io(c:De):FF->Sto->Tape->Prop->TX:=
 De.rec (motive:=λ_=>FF->Sto->Tape->Prop->TX)
  (λff b a q=>some ⟨.normal,ff,b,a,q⟩)
  (λops=>tY pur R ops)
  (λ_ _ h e ff b a q=>UH (h ff b a q) e)
  (λc _ _ f g=>bH c f g)
  (λid _ i ff b a q=>iW id (i ff b a q))
  (λd c _=>tZ pur R d c)
  (λid ff b a q=>some ⟨.exit id,ff,b,a,q⟩)
  (λff b a q=>some ⟨.ret,ff,b,a,q⟩) c
end
end
section
variable{pur:FuncId->Bool}{R:Nat->Caller}{ff aa ff0:FF}{σ σ':Sto}{tp ab:Tape}{q q':Prop}{e:CE}
def Jz(h:Sub ff ff0):∀(zs:List CW) (vs:List PV),EF ff zs=some vs->EF ff0 zs=some vs
 |[],vs,d=>d
 |.slot t::zs,vs,d=>by
  have a:(Option.rec (motive:=λ_=>Option (List PV)) none (λv=>Option.rec (motive:=λ_=>Option (List PV)) none (λvs=>some (v::vs)) (EF ff zs)) (FQ ff t))=some vs:=d
  show(Option.rec (motive:=λ_=>Option (List PV)) none (λv=>Option.rec (motive:=λ_=>Option (List PV)) none (λvs=>some (v::vs)) (EF ff0 zs)) (FQ ff0 t))=some vs
  cases f:FQ ff t with
  |none=>rw[f] at a;cases a
  |some v=>
   rw[f] at a;cases c:EF ff zs with
   |none=>rw[c] at a;cases a
   |some g=>
    rw[c] at a;rw[h t v f,Jz h zs g c];exact a
 |.val v::zs,vs,d=>by
  have a:(Option.rec (motive:=λ_=>Option (List PV)) none (λvs=>some (v::vs)) (EF ff zs))=some vs:=d
  show(Option.rec (motive:=λ_=>Option (List PV)) none (λvs=>some (v::vs)) (EF ff0 zs))=some vs
  cases c:EF ff zs with
  |none=>rw[c] at a;cases a
  |some g=>
   rw[c] at a;rw[Jz h zs g c];exact a
def Tp:∀(ts:List Nat) (vs:List (Option PV)) {ff ff0:FF},Sub ff ff0->Sub (Wh ts vs ff) (Wh ts vs ff0)
 |[],vs,ff,ff0,h=>by cases vs<;>exact h
 |t::ts,[],ff,ff0,h=>h
 |t::ts,v::vs,ff,ff0,h=>by
  refine Tp ts vs (ff:=(t,v)::ff) (ff0:=(t,v)::ff0) λs x b=>?_
  rw[L6] at b ⊢;cases c:Nat.beq t s with
  |true=>simp only[c,cond_true] at b ⊢;exact b
  |false=>simp only[c,cond_false] at b ⊢;exact h s x b
def Um{d:Option Nat}{f b:List Nat}{g:List (Option PV)}(h:Sub ff ff0)(a:jV d f b ff g σ=some (aa,σ')):∃c,jV d f b ff0 g σ=some (c,σ')/\Sub aa c:=by
 unfold jV at a ⊢;cases i:Nat.beq g.length (d.toList.length+f.length) with
 |true=>rw[i] at a;cases a;exact⟨_,rfl,Tp _ _ h⟩
 |false=>
  rw[i] at a;cases j:(d.isNone&&f.isEmpty&&b.isEmpty) with
  |true=>rw[j] at a;cases a;exact⟨_,rfl,h⟩
  |false=>rw[j] at a;cases a
def SL{call:Caller}{k:AK}{vs:List PV}{x:List (Option PV)×Sto}(h:sem pur Ms k vs σ=some x):sem pur call k vs σ=some x:=by
 cases k with
 |p k=>exact h
 |r k=>exact h
 |c f=>
  simp only[sem,Ms] at h
  split at h<;>simp at h
 |w k=>
  simp only[sem] at h ⊢;unfold Fj at h ⊢
  split at h<;>first
   |exact h
   |(simp only[Ms] at h;repeat' split at h;all_goals simp at h)
def NF{call:Caller}{o:AOp}{vs:List PV}{b:List (Option PV)}{a:Sto}(c:EF ff o.args=some vs)(d:sem pur call o.k vs σ=some (b,a)):Kz pur call o ff σ=jV o.dst o.ex o.clr ff b a:=by
 unfold Kz;rw[c];dsimp only;rw[d];rfl
def bZ{call:Caller}{o:AOp}(h:Kz pur call o ff σ=some (aa,σ')):∃vs d a,EF ff o.args=some vs/\sem pur call o.k vs σ=some (d,a)/\jV o.dst o.ex o.clr ff d a=some (aa,σ'):=by
 unfold Kz at h;cases c:EF ff o.args with
 |none=>rw[c] at h;cases h
 |some vs=>
  rw[c] at h;dsimp only at h;cases b:sem pur call o.k vs σ with
  |none=>rw[b] at h;cases h
  |some r=>
   rw[b] at h;exact⟨vs,r.1,r.2,rfl,b,h⟩
def SS{call:Caller}{o:AOp}(h:Sub ff ff0)(d:Kz pur Ms o ff σ=some (aa,σ')):∃a,Kz pur call o ff0 σ=some (a,σ')/\Sub aa a:=by
 obtain⟨vs,i,f,b,g,c⟩:=bZ d;rw[NF (Jz h _ _ b) (SL g)];exact Um h c
def MQ{g:Nat}{b d:Bool}(h:Sub ff ff0)(a:H9 (FQ ff g) b=some d):H9 (FQ ff0 g) b=some d:=by
 cases c:FQ ff g with
 |none=>rw[c] at a;simp[H9] at a
 |some v=>rw[h g v c,<-c];exact a
def HZ{call:Caller}{o:AOp}{g:Nat×Bool}{d:Bool}(a:o.guard=some g)(b:H9 (FQ ff g.1) g.2=some d):
  Jk pur call o ff σ=cond d (Kz pur call o ff σ) (cond (o.ex.isEmpty&&o.clr.isEmpty) (some (Wh o.wr [some Li] ff,σ)) none):=by
 unfold Jk;rw[a];dsimp only;rw[b]
def WA{o:AOp}(h:Sub ff ff0)(b:cond (o.ex.isEmpty&&o.clr.isEmpty) (some (Wh o.wr [some Li] ff,σ)) none=some (aa,σ')):
  ∃a,cond (o.ex.isEmpty&&o.clr.isEmpty) (some (Wh o.wr [some Li] ff0,σ)) none=some (a,σ')/\Sub aa a:=by
 cases c:(o.ex.isEmpty&&o.clr.isEmpty) with
 |true=>rw[c] at b;cases b;exact⟨_,rfl,Tp _ _ h⟩
 |false=>rw[c] at b;cases b
def pu{call:Caller}{o:AOp}(h:Sub ff ff0)(a:Jk pur Ms o ff σ=some (aa,σ')):∃b,Jk pur call o ff0 σ=some (b,σ')/\Sub aa b:=by
 cases c:o.guard with
 |none=>
  unfold Jk at a ⊢;rw[c] at a ⊢;exact SS h a
 |some g=>
  cases f:H9 (FQ ff g.1) g.2 with
  |none=>
   unfold Jk at a;rw[c] at a;dsimp only at a;rw[f] at a;cases a
  |some d=>
   rw[HZ c f] at a;rw[HZ c (MQ h f)];cases d with
   |true=>exact SS h a
   |false=>exact WA h a
def OQ{call:Caller}{o:AOp}(a:o.guard=none):Jk pur call o ff σ=Kz pur call o ff σ:=by
 unfold Jk;rw[a]
def OpT(pur:FuncId->Bool)(R:Nat->Caller)(o:AOp)(ff:FF)(σ:Sto)(aa:FF)(σ':Sto):Prop:=
 ∃N,∀n,N<=n->∀ff0,Sub ff ff0->∃a,Jk pur (R n) o ff0 σ=some (a,σ')/\Sub aa a
def JH{r:RFS}{x:TO}(h:tL tp q r=some x):∃aa σ',r=some (aa,σ')/\x=⟨.normal,aa,σ',tp,q⟩:=by
 cases r with
 |none=>cases h
 |some r=>cases h;exact⟨r.1,r.2,rfl,rfl⟩
def opW{k:AK}{vs:List PV}{a:List (Option PV)}{u:Option Sto}(h:WQ pur R k vs σ a u):Bt pur R k vs σ a (gS σ u):=by
 cases u with
 |none=>exact h R σ
 |some x=>exact h
def bG{o:AOp}{a:Ans}{x:TO}(h:Kr pur R o ff σ tp q a=some x):x.e=.normal/\(x.q->q)/\(x.q->OpT pur R o ff σ x.ff x.σ):=by
 cases a with
 |br b=>cases h
 |loop ls e f s=>cases h
 |res r u=>
  cases i:o.guard with
  |some g=>simp only[Kr,i] at h;cases h
  |none=>
   simp only[Kr,i] at h;cases k:EF ff o.args with
   |none=>rw[k] at h;cases h
   |some vs=>
    rw[k] at h;obtain⟨aa,σ',l,rfl⟩:=JH h;refine⟨rfl,λc=>c.2,λc=>?_⟩
    obtain⟨N,m⟩:=opW c.1;refine⟨N,λn p ff0 j=>?_⟩
    rw[OQ i,NF (Jz j _ _ k) (m n p)];exact Um j l
 |grd d=>
  cases i:o.guard with
  |none=>simp only[Kr,i] at h;cases h
  |some g=>
   simp only[Kr,i] at h;obtain⟨aa,σ',l,rfl⟩:=JH h;refine⟨rfl,λc=>c.2,λc=>⟨0,λn _ ff0 j=>?_⟩⟩
   rw[HZ i (MQ j c.1)];cases d with
   |true=>exact SS j l
   |false=>exact WA j l
 |grdr r u=>
  cases i:o.guard with
  |none=>simp only[Kr,i] at h;cases h
  |some g=>
   simp only[Kr,i] at h;cases k:EF ff o.args with
   |none=>rw[k] at h;cases h
   |some vs=>
    rw[k] at h;obtain⟨aa,σ',l,rfl⟩:=JH h;refine⟨rfl,λc=>c.2.2,λc=>?_⟩
    obtain⟨N,m⟩:=opW c.1;refine⟨N,λn p ff0 j=>?_⟩
    rw[HZ i (MQ j c.2.1),cond_true,NF (Jz j _ _ k) (m n p)];exact Um j l
def LP{d:Type}{tp:Tape}{b:Tape->d}{c:Tape->Ans->d}(P:d->Prop)(f:∀t,P (b t))(g:∀t a,P (c t a)):P (kV tp b c):=by
 cases tp with
 |nil=>exact f _
 |cons x tp=>
  obtain⟨n,a⟩:=x;cases n with
  |zero=>exact g _ _
  |succ n=>exact f _
def WG{o:AOp}:∀{x:TO},tOp pur R o ff σ tp q=some x->x.e=.normal/\(x.q->q)/\(x.q->OpT pur R o ff σ x.ff x.σ):=by
 unfold tOp;refine LP (λr=>∀{x:TO},r=some x->x.e=.normal/\(x.q->q)/\(x.q->OpT pur R o ff σ x.ff x.σ)) (λt {x} h=>?_) (λt a {x} h=>bG h)
 obtain⟨aa,σ',b,rfl⟩:=JH h;exact⟨rfl,id,λ_=>⟨0,λn _ ff0 c=>pu c b⟩⟩
def NS{r:TX}{k:FF->Sto->Tape->Prop->TX}{x:TO}(h:UH r k=some x):∃y,r=some y/\((y.e=.normal/\k y.ff y.σ y.tp y.q=some x)\/(y.e≠.normal/\y=x)):=by
 cases r with
 |none=>cases h
 |some y=>
  refine⟨y,rfl,?_⟩
  have a:cond (Hy y.e) (k y.ff y.σ y.tp y.q) (some y)=some x:=h;obtain⟨e,f,s,t,q⟩:=y;cases e with
  |normal=>exact .inl ⟨rfl,a⟩
  |exit i=>exact .inr ⟨by simp,Option.some.inj a⟩
  |ret=>exact .inr ⟨by simp,Option.some.inj a⟩
def WV(call:Caller)(o:AOp)(a:List AOp):ou pur call (o::a) ff σ=Option.rec (motive:=λ_=>RX) none (λr=>ou pur call a r.1 r.2) (Jk pur call o ff σ):=rfl
def OA:∀(b:List AOp) {ff:FF} {σ:Sto} {tp:Tape} {q:Prop} {x:TO},tY pur R b ff σ tp q=some x->(x.q->q)/\(x.q->Ny pur R (.region b) ff σ x.e x.ff x.σ)
 |[],ff,σ,tp,q,x,h=>by cases h;exact⟨id,λ_=>⟨0,λn _ ff0 f=>⟨ff0,rfl,f⟩⟩⟩
 |o::b,ff,σ,tp,q,x,h=>by
  have m:UH (tOp pur R o ff σ tp q) (tY pur R b)=some x:=h;obtain⟨y,p,w⟩:=NS m;obtain⟨u,j,A⟩:=WG p;rcases w with⟨_,B⟩ | ⟨g,_⟩
  ·obtain⟨c,r⟩:=OA b B;refine⟨λd=>j (c d),λd=>?_⟩
   obtain⟨l,v⟩:=A (c d);obtain⟨t,C⟩:=r d;refine⟨max l t,λn E ff0 f=>?_⟩
   obtain⟨k,D,a2⟩:=v n am ff0 f
   obtain⟨i,z,s⟩:=C n am k a2
   refine⟨i,?_,s⟩
   show ou pur (R n) (o::b) ff0 σ=_;rw[WV,D];exact z
  ·exact absurd u g
def GA:∀(c:De) {ff:FF} {σ:Sto} {tp:Tape} {q:Prop} {x:TO},Io pur R c ff σ tp q=some x->(x.q->q)/\(x.q->Ny pur R c ff σ x.e x.ff x.σ):=by
 intro c
 induction c with
 |skip=>intro ff σ tp q x h;cases h;exact⟨id,λ_=>⟨0,λn _ ff0 g=>⟨ff0,rfl,g⟩⟩⟩
 |region ops=>intro ff σ tp q x h;exact OA ops h
 |exit i=>intro ff σ tp q x h;cases h;exact⟨id,λ_=>⟨0,λn _ ff0 g=>⟨ff0,rfl,g⟩⟩⟩
 |ret=>intro ff σ tp q x h;cases h;exact⟨id,λ_=>⟨0,λn _ ff0 g=>⟨ff0,rfl,g⟩⟩⟩
 |seq a b D C=>
  intro ff σ tp q x h;have o:UH (Io pur R a ff σ tp q) (Io pur R b)=some x:=h;obtain⟨y,Y,hc⟩:=NS o;obtain⟨u,J⟩:=D Y;have G:∀n ff0,Gd pur (R n) n (.seq a b) ff0 σ=Option.rec (motive:=λ_=>RX) none (λr=>cond (Hy r.1) (Gd pur (R n) n b r.2.1 r.2.2) (some r)) (Gd pur (R n) n a ff0 σ):=λ_ _=>rfl
  rcases hc with⟨Z,hk⟩ | ⟨U,rfl⟩
  ·obtain⟨M,P⟩:=C hk;refine⟨λl=>u (M l),λl=>?_⟩
   obtain⟨X,Q⟩:=J (M l);obtain⟨N2,H2⟩:=P l;rw[Z] at Q;refine⟨max X N2,λn p ff0 g=>?_⟩
   obtain⟨k,A,a2⟩:=Q n am ff0 g
   obtain⟨W,b1,b2⟩:=H2 n am k a2
   refine⟨W,?_,b2⟩
   rw[G,A];exact b1
  ·refine⟨u,λl=>?_⟩
   obtain⟨X,Q⟩:=J l;refine⟨X,λn p ff0 g=>?_⟩
   obtain⟨k,A,a2⟩:=Q n p ff0 g;refine⟨k,?_,a2⟩
   rw[G,A];obtain⟨e,f,s,t,F⟩:=y;cases e with
   |normal=>exact absurd rfl U
   |exit i=>rfl
   |ret=>rfl
 |cond c a b D C=>
  intro ff σ tp q x h;have z:∀n ff0,Gd pur (R n) n (.cond c a b) ff0 σ=gQ (EF ff0 [c]) (Gd pur (R n) n a ff0 σ) (Gd pur (R n) n b ff0 σ):=λ_ _=>rfl
  have O:∀(w:Bool) (t:Tape) (F:Prop),EF ff [c]=some [.bool w]->cond w (Io pur R a ff σ t F) (Io pur R b ff σ t F)=some x->(x.q->F)/\(x.q->Ny pur R (.cond c a b) ff σ x.e x.ff x.σ):=by
   intro w t F L l;cases w with
   |true=>
    obtain⟨S,V⟩:=D l;refine⟨S,λm=>?_⟩
    obtain⟨N,H⟩:=V m;refine⟨N,λn p ff0 g=>?_⟩
    rw[z,Jz g _ _ L];exact H n p ff0 g
   |false=>
    obtain⟨S,V⟩:=C l;refine⟨S,λm=>?_⟩
    obtain⟨N,H⟩:=V m;refine⟨N,λn p ff0 g=>?_⟩
    rw[z,Jz g _ _ L];exact H n p ff0 g
  have o:bH c (Io pur R a) (Io pur R b) ff σ tp q=some x:=h
  revert o
  unfold bH;refine LP (λr=>r=some x->(x.q->q)/\(x.q->Ny pur R (.cond c a b) ff σ x.e x.ff x.σ)) (λt l=>?_) (λt T l=>?_)
  ·split at l
   ·rename_i w L;exact O w t q L l
   ·cases l
  ·cases T with
   |br w=>
    have K:cond w (Io pur R a ff σ t (EF ff [c]=some [.bool w]/\q)) (Io pur R b ff σ t (EF ff [c]=some [.bool w]/\q))=some x:=l
    have m:x.q->(EF ff [c]=some [.bool w]/\q):=by
     cases w with
     |true=>exact(D K).1
     |false=>exact(C K).1
    exact⟨λE=>(m E).2,λE=>(O w t _ (m E).1 K).2 E⟩
   |_=>cases l
 |block id c ih=>
  intro ff σ tp q x h;have o:iW id (Io pur R c ff σ tp q)=some x:=h;have I:∀n ff0,Gd pur (R n) n (.block id c) ff0 σ=Option.rec (motive:=λ_=>RX) none (λr=>CE.rec (motive:=λ_=>RX) (some r) (λi=>cond (Nat.beq i id) (some (.normal,r.2)) (some r)) (some r) r.1) (Gd pur (R n) n c ff0 σ):=λ_ _=>rfl
  cases P:Io pur R c ff σ tp q with
  |none=>rw[P] at o;cases o
  |some y=>
   rw[P] at o;obtain⟨u,J⟩:=ih P;obtain⟨e,f,s,t,F⟩:=y;cases e with
   |normal=>
    cases o;refine⟨u,λm=>?_⟩
    obtain⟨N,H⟩:=J m;refine⟨N,λn p ff0 g=>?_⟩
    obtain⟨k,A,a2⟩:=H n p ff0 g;exact⟨k,by rw[I,A],a2⟩
   |ret=>
    cases o;refine⟨u,λm=>?_⟩
    obtain⟨N,H⟩:=J m;refine⟨N,λn p ff0 g=>?_⟩
    obtain⟨k,A,a2⟩:=H n p ff0 g;exact⟨k,by rw[I,A],a2⟩
   |exit i=>
    have B:cond (Nat.beq i id) (some (⟨.normal,f,s,t,F⟩:TO)) (some ⟨.exit i,f,s,t,F⟩)=some x:=o;cases hi:Nat.beq i id with
    |true=>
     rw[hi] at B;cases B;refine⟨u,λm=>?_⟩
     obtain⟨N,H⟩:=J m;refine⟨N,λn p ff0 g=>?_⟩
     obtain⟨k,A,a2⟩:=H n p ff0 g;exact⟨k,by rw[I,A];dsimp only;rw[hi];rfl,a2⟩
    |false=>
     rw[hi] at B;cases B;refine⟨u,λm=>?_⟩
     obtain⟨N,H⟩:=J m;refine⟨N,λn p ff0 g=>?_⟩
     obtain⟨k,A,a2⟩:=H n p ff0 g;exact⟨k,by rw[I,A];dsimp only;rw[hi];rfl,a2⟩
 |loop d c _=>
  intro ff σ tp q x h;have o:tZ pur R d c ff σ tp q=some x:=h
  revert o
  unfold tZ;refine LP (λr=>r=some x->(x.q->q)/\(x.q->Ny pur R (.loop d c) ff σ x.e x.ff x.σ)) (λt l=>by cases l) (λt T l=>?_)
  cases T with
  |loop ls e f s=>
   cases l;refine⟨λm=>m.2,λm=>?_⟩
   obtain⟨N,H⟩:=m.1;refine⟨N,λn p ff0 g=>?_⟩
   refine H n p n p (F7 ff0 d 0) ((NH _ _).trans λt v L=>?_)
   exact j g d 0 t v L
  |_=>cases l
 where
 j {ff ff0:FF} (g:Sub ff ff0):∀(d:List Bool) (i:Nat),Sub (F7 ff d i) (F7 ff0 d i)
  |[],i,t,v,h=>by cases h
  |b::d,i,t,v,h=>by
   cases b with
   |false=>exact j g d (i+1) t v h
   |true=>
    have o:cond (Nat.beq i t) (FQ ff i) (FQ (F7 ff d (i+1)) t)=some v:=h;show cond (Nat.beq i t) (FQ ff0 i) (FQ (F7 ff0 d (i+1)) t)=some v;cases I:Nat.beq i t with
    |true=>rw[I] at o;exact g i v o
    |false=>rw[I] at o;exact j g d (i+1) t v o
end
section
variable(pur:FuncId->Bool)(R:Nat->Caller)
noncomputable def Tx(e:CE)(x:Option (PV×Sto×Prop)):Option (PV×Sto×Prop):=CE.rec (motive:=λ_=>Option (PV×Sto×Prop)) x (λ_=>none) x e
noncomputable def runT(a:Ay)(args:List PV)(b:Sto)(c:Tape):Option (PV×Sto×Prop):=
 cond (Nat.beq args.length a.nargs&&Nat.ble args.length a.ntmps)
  (Option.rec (motive:=λ_=>Option (PV×Sto×Prop)) none (λo=>Tx o.e (Option.rec (motive:=λ_=>Option (PV×Sto×Prop)) none (λvs=>Option.rec (motive:=λ_=>Option (PV×Sto×Prop)) none (λr=>some (r,o.σ,o.q)) (CX vs)) (FE o.ff a.results))) (Io pur R a.code (Np args 0) b c True)) none
noncomputable def uV(a:Ay)(args:List PV)(b:Sto)(c:Tape)(r:PV):Option (PV×Sto×Prop):=
 cond (Nat.beq args.length a.nargs&&Nat.ble args.length a.ntmps)
  (Option.rec (motive:=λ_=>Option (PV×Sto×Prop)) none (λo=>Tx o.e (some (r,o.σ,(FE o.ff a.results).bind CX=some r/\o.q))) (Io pur R a.code (Np args 0) b c True)) none
noncomputable def mi(a:List Bool)(c:De)(ls:List Nat)(ff:FF)(b:Sto)(d:Tape):Option (FF×Sto×Prop):=
 Option.rec (motive:=λ_=>Option (FF×Sto×Prop)) none (λo=>cond (Hy o.e) (some (WO ls (F7 o.ff a 0),o.σ,o.q)) none) (Io pur R c ff b d True)
noncomputable def Z6(c:De)(ls:List Nat)(ff:FF)(b:Sto)(a:Tape):Option (CE×FF×Sto×Prop):=
 Option.rec (motive:=λ_=>Option (CE×FF×Sto×Prop)) none (λo=>cond (Hy o.e) none (some (o.e,WO ls o.ff,o.σ,o.q))) (Io pur R c ff b a True)
end
section
variable{pur:FuncId->Bool}{R:Nat->Caller}
def Pb{ff ff0:FF}(h:Sub ff ff0):∀(b:List (Nat×Option Nat)) (vs:List PV),FE ff b=some vs->FE ff0 b=some vs
 |[],vs,d=>d
 |(t,n)::b,vs,d=>by
  have a:(match FQ ff t,FE ff b with | some v,some vs=>if LU v n then some (v.Ag::vs) else(M5 v n).map λr=>r::vs | _,_=>none)=some vs:=d
  show(match FQ ff0 t,FE ff0 b with | some v,some vs=>if LU v n then some (v.Ag::vs) else(M5 v n).map λr=>r::vs | _,_=>none)=some vs
  split at a
  ·rename_i v f e g;rw[h t v e,Pb h b f g];exact a
  ·cases a
def AzK{f:FuncId}{b:Ay}{args:List PV}{l g:Sto}{r:PV}{z:Tape}{q:Prop}(G:∀n,R (n+1) f args l=Lp pur (R n) n b args l)(B:q)(h:runT pur R b args l z=some (r,g,q)):Ev R f args l r g:=by
 unfold runT at h;cases v:(Nat.beq args.length b.nargs&&Nat.ble args.length b.ntmps) with
 |false=>rw[v] at h;cases h
 |true=>
  rw[v] at h;cases w:Io pur R b.code (Np args 0) l z True with
  |none=>rw[w] at h;cases h
  |some o=>
   rw[w] at h;obtain⟨_,y⟩:=GA b.code w;obtain⟨e,s,A,t1,x⟩:=o;dsimp only[cond_true] at h y
   have u:∀{e},e=.normal\/e=.ret->Ny pur R b.code (Np args 0) l e s A->
     (Option.rec (motive:=λ_=>Option (PV×Sto×Prop)) none (λvs=>Option.rec (motive:=λ_=>Option (PV×Sto×Prop)) none (λr=>some (r,A,x)) (CX vs)) (FE s b.results))=some (r,g,q)->Ev R f args l r g:=by
    intro e E F j;cases d:FE s b.results with
    |none=>rw[d] at j;cases j
    |some vs=>
     rw[d] at j;dsimp only at j;cases c:CX vs with
     |none=>rw[c] at j;cases j
     |some p=>
      rw[c] at j;cases j;obtain⟨N,H⟩:=F;refine⟨N+1,λn I=>?_⟩
      obtain⟨n,rfl⟩:∃m,n=m+1:=⟨n - 1,am⟩
      rw[G];obtain⟨D,C,a2⟩:=H n am _ (Sub.refl _)
      unfold Lp;rw[v,C];have t:=Pb a2 _ _ d;rcases E with rfl | rfl
      ·dsimp only[cond_true];rw[t];simp[c]
      ·dsimp only[cond_true];rw[t];simp[c]
   cases e with
   |normal=>
    have a:=h
    have k:x:=by
     cases d:FE s b.results with
     |none=>simp only[Tx,d] at a;cases a
     |some vs=>
      simp only[Tx,d] at a;cases c:CX vs with
      |none=>rw[c] at a;cases a
      |some p=>rw[c] at a;cases a;exact B
    exact u (.inl rfl) (y k) h
   |exit i=>cases h
   |ret=>
    have a:=h
    have k:x:=by
     cases d:FE s b.results with
     |none=>simp only[Tx,d] at a;cases a
     |some vs=>
      simp only[Tx,d] at a;cases c:CX vs with
      |none=>rw[c] at a;cases a
      |some p=>rw[c] at a;cases a;exact B
    exact u (.inr rfl) (y k) h
def xK{f:FuncId}{b:Ay}{args:List PV}{c a:Sto}{r:PV}{v:Tape}{q:Prop}(B:∀n,R (n+1) f args c=Lp pur (R n) n b args c)(j:q)(h:uV pur R b args c v r=some (r,a,q)):Ev R f args c r a:=by
 unfold uV at h;cases k:(Nat.beq args.length b.nargs&&Nat.ble args.length b.ntmps) with
 |false=>rw[k] at h;cases h
 |true=>
  rw[k] at h;cases l:Io pur R b.code (Np args 0) c v True with
  |none=>rw[l] at h;cases h
  |some o=>
   rw[l] at h;obtain⟨_,p⟩:=GA b.code l;obtain⟨e,s,u,t1,E⟩:=o;dsimp only[cond_true] at h p
   have g:∀{e},e=.normal\/e=.ret->Ny pur R b.code (Np args 0) c e s u->(FE s b.results).bind CX=some r->u=a->Ev R f args c r a:=by
    rintro e x C A rfl
    obtain⟨vs,w,t⟩:=AB.1 A;obtain⟨N,H⟩:=C;refine⟨N+1,λn D=>?_⟩
    obtain⟨n,rfl⟩:∃m,n=m+1:=⟨n - 1,am⟩
    rw[B];obtain⟨y,z,a2⟩:=H n am _ (Sub.refl _)
    unfold Lp;rw[k,z];have d:=Pb a2 _ _ w;rcases x with rfl | rfl
    ·dsimp only[cond_true];rw[d];simp[t]
    ·dsimp only[cond_true];rw[d];simp[t]
   cases e with
   |normal=>cases h;exact g (.inl rfl) (p j.2) j.1 rfl
   |exit i=>cases h
   |ret=>cases h;exact g (.inr rfl) (p j.2) j.1 rfl
def TS(b:List Bool)(a:FF->Sto->RX)(m:Nat)(ff:FF)(c:Sto):fP b a (m+1) ff c=Option.rec (motive:=λ_=>RX) none (λr=>cond (Hy r.1) (fP b a m (F7 r.2.1 b 0) r.2.2) (some r)) (a ff c):=rfl
def Xb{a:List Bool}{c:De}{ls:List Nat}{ff g d:FF}{k b f:Sto}{e:CE}{s:Tape}{q:Prop}(v:q)(C:IM pur R a c g b e d f)(h:mi pur R a c ls ff k s=some (g,b,q)):IM pur R a c ff k e d f:=by
 unfold mi at h;cases r:Io pur R c ff k s True with
 |none=>rw[r] at h;cases h
 |some o=>
  rw[r] at h;obtain⟨_,B⟩:=GA c r;obtain⟨z,F,G,t1,J⟩:=o;cases z with
  |exit i=>cases h
  |ret=>cases h
  |normal=>
   cases h;obtain⟨t,u⟩:=B v;obtain⟨x,A⟩:=C;refine⟨max t (x+1),λn I m H ff0 p=>?_⟩
   obtain⟨m,rfl⟩:∃y,m=y+1:=⟨m - 1,am⟩
   obtain⟨l,E,a2⟩:=u n am ff0 p
   obtain⟨j,D,w⟩:=A n am m am (F7 l a 0) ((NH _ _).trans (GA.j a2 a 0))
   refine⟨j,?_,w⟩
   rw[TS,E];exact D
def TJ{d:List Bool}{c:De}{ls:List Nat}{ff b:FF}{g a:Sto}{e:CE}{s:Tape}{q:Prop}(A:q)(h:Z6 pur R c ls ff g s=some (e,b,a,q)):IM pur R d c ff g e b a:=by
 unfold Z6 at h;cases l:Io pur R c ff g s True with
 |none=>rw[l] at h;cases h
 |some o=>
  rw[l] at h;obtain⟨_,v⟩:=GA c l;obtain⟨r,C,y,t1,x⟩:=o
  have f:Hy r=false->(r,WO ls C,y,x)=(e,b,a,q)->IM pur R d c ff g e b a:=by
   intro k w;cases w;obtain⟨t,z⟩:=v A;refine⟨t+1,λn D m E ff0 p=>?_⟩
   obtain⟨m,rfl⟩:∃u,m=u+1:=⟨m - 1,am⟩
   obtain⟨j,B,a2⟩:=z n am ff0 p
   refine⟨j,?_,(NH _ _).trans a2⟩
   rw[TS,B];show cond (Hy _) _ _=_;rw[k];rfl
  cases r with
  |normal=>cases h
  |exit i=>exact f rfl (Option.some.inj h)
  |ret=>exact f rfl (Option.some.inj h)
def GK{k:PK}{vs:List PV}{a:Sto}{b:List (Option PV)}(h:AQ k vs=some b):Bt pur R (.p k) vs a b a:=⟨0,λ_ _=>by simp only[sem,h,AJ]⟩
def AYW{k:RK}{vs:List PV}{a:Sto}{b:List (Option PV)}(h:Dq k vs a=some b):Bt pur R (.r k) vs a b a:=⟨0,λ_ _=>by simp only[sem,h,AJ]⟩
def MK{f:FuncId}{vs zs:List PV}{a s:Sto}{r r':PV}(h:Ev R f zs [] r s)(c:vs.map PV.Ag=zs:=by rfl)(e:(vs.all PV.free&&vs.all PV.flat)=true:=by rfl)(g:r.flat=true:=by rfl)(b:r.Ag=r':=by rfl):Bt pur R (.c f) vs a [some r'] a:=by
 obtain⟨N,H⟩:=h;exact⟨N,λn d=>by simp only[sem,e,if_true,c,H n d,Ep,g,b]⟩
def FR{f:FuncId}{vs zs:List PV}{b a:Sto}{r r':PV}(h:Ev R f zs b r a)(d:pur f=false:=by rfl)(g:vs.map PV.Ag=zs:=by rfl)(i:vs.all PV.free=true:=by rfl)(c:r.Ag=r':=by rfl):Bt pur R (.w (.call f)) vs b [some r'] a:=by
 obtain⟨N,H⟩:=h;refine⟨N,λn e=>?_⟩
 show Fj pur (R n) (.call f) vs b=_;unfold Fj;simp only[i,if_true,d,Bool.false_eq_true,if_false,g,H n e,AJ,c]
def Oh{f:FuncId}{fs cs vs zs:List PV}{b a:Sto}{r r':PV}(h:Ev R f zs b r a)(d:pur f=false)(g:(fs++vs++cs).map PV.Ag=zs:=by simp)(i:vs.all PV.free=true:=by simp)(c:r.Ag=r':=by simp):Bt pur R (.w .DC) (.func f fs cs::vs) b [some r'] a:=by
 obtain⟨N,H⟩:=h;refine⟨N,λn e=>?_⟩
 show Fj pur (R n) .DC (.func f fs cs::vs) b=_;unfold Fj;simp only[i,if_true,d,Bool.false_eq_true,if_false,g,H n e,AJ,c]
def KE{f:FuncId}{fs cs vs zs:List PV}{b s:Sto}{r r':PV}(h:Ev R f zs [] r s)(e:pur f=true:=by rfl)(d:(fs++vs++cs).map PV.Ag=zs:=by rfl)(i:vs.all PV.free=true:=by rfl)(a:zs.all PV.flat=true:=by rfl)(j:r.flat=true:=by rfl)(c:r.Ag=r':=by rfl):Bt pur R (.w .DC) (.func f fs cs::vs) b [some r'] b:=by
 obtain⟨N,H⟩:=h;refine⟨N,λn g=>?_⟩
 show Fj pur (R n) .DC (.func f fs cs::vs) b=_;unfold Fj;simp only[i,if_true,e,d,a,H n g,Ep,j,c]
end
end Go.Abs

namespace Go.Abs.Z
open Go.Proofs Go.RowKit
inductive Tr where
 |mk (kind:Int) (text:List UInt8) (st en:Int) (none:Bool) (kids:List Tr)
 deriving Inhabited
mutual
def Tr.pv:Tr->PV
 |.mk k t a e n ks=>.agg [.int .i64 k,.str t,.int .i64 a,.int .i64 e,if n then .nils else .slice false 5 (Tr.pvs ks)]
def Tr.pvs:List Tr->List PV
 |[]=>[]
 |t::ts=>t.pv::Tr.pvs ts
end
mutual
def Tr.wf:Tr->Prop
 |.mk k t a e n ks=>(n=true->ks=[])/\Tr.wfs ks
def Tr.wfs:List Tr->Prop
 |[]=>True
 |t::ts=>t.wf/\Tr.wfs ts
end
def Tr.Du:∀ks:List Tr,Tr.pvs ks=ks.map Tr.pv
 |[]=>rfl
 |t::ts=>by rw[Tr.pvs,Tr.Du ts];rfl
def Tr.OZ:∀{ks:List Tr},Tr.wfs ks->∀k∈ks,k.wf
 |[],_,k,h=>by cases h
 |t::ts,a,k,h=>by
  rcases AU.1 h with rfl | h
  ·exact a.1
  ·exact Tr.OZ a.2 k h
def Tr.kids:Tr->List Tr
 |.mk _ _ _ _ _ ks=>ks
def Tr.kp:Tr->PV
 |.mk _ _ _ _ n ks=>if n then .nils else .slice false 5 (Tr.pvs ks)
def Tr.kind:Tr->Int
 |.mk k _ _ _ _ _=>k
def Tr.text:Tr->List UInt8
 |.mk _ t _ _ _ _=>t
def Tr.st:Tr->Int
 |.mk _ _ a _ _ _=>a
def Tr.en:Tr->Int
 |.mk _ _ _ e _ _=>e
def nd(k:Int)(t:List UInt8)(a e:Int)(b:PV):PV:=.agg [.int .i64 k,.str t,.int .i64 a,.int .i64 e,b]
def mf(a:PV):Prop:=a.Ck=a/\a.isAgg=false/\a.isSelf=false/\a.flat=true
def W9{k a e:Int}{t:List UInt8}{b:PV}(h:mf b):(nd k t a e b).Ag=nd k t a e b:=by
 show PV.agg [.int .i64 k,.str t,.int .i64 a,.int .i64 e,b.Ck]=_;rw[h.1];rfl
def BQD{k a e:Int}{t:List UInt8}{b:PV}(h:mf b):AQ (.fa 4 1 false) [.vptr (nd k t a e b)]=some [some (.vptr b)]:=by
 simp[AQ,faV,sub,nd,PV.cells,h.2.1,h.2.2.1]
def Tr.He(T:Tr):T.pv=nd T.kind T.text T.st T.en T.kp:=by cases T;rfl
def Tr.mP(T:Tr):mf T.kp:=by
 obtain⟨k,t,a,e,n,ks⟩:=T;show mf (if n then .nils else .slice false 5 (Tr.pvs ks))
 cases n
 ·exact⟨rfl,rfl,rfl,rfl⟩
 ·exact⟨rfl,rfl,rfl,rfl⟩
def Tr.Ef(T:Tr):T.pv.Ag=T.pv:=by rw[Tr.He,W9 T.mP]
def Tr.Pj(T:Tr):T.pv.flat=true:=by rw[Tr.He];rfl
def Tr.RZ(T:Tr):T.pv.free=true:=by rw[Tr.He];rfl
def Tr.Tj(T:Tr):T.pv.okc=true:=by rw[Tr.He];rfl
def Tr.Mr(T:Tr):T.pv.cells.length=5:=by rw[Tr.He];rfl
def Tr.Pi(T:Tr):T.pv.ones=true:=by
 obtain⟨k,t,a,e,n,ks⟩:=T;cases n<;>rfl
def p_mv(v:PV)(h:v.free=true):AQ .mv [v]=some [some v.Ag]:=by simp[AQ,h]
def p_bx(v:PV)(h:v.flat=true):AQ .bx [v]=some [some (.vptr v.Ag)]:=by simp[AQ,h]
def Nb(o:Bool)(s j:Nat)(x:List PV)(v:PV)(h:x[j]?=some v):AQ (.idx s) [.slice o s x,.int .i64 j]=some [some (.vptr v)]:=by
 have:(0:Int)<=(j:Int):=am
 simp[AQ,fZ,h,this]
def Bi(s:List UInt8)(j:Nat)(c:UInt8)(h:s[j]?=some c):AQ .sidx [.str s,.int .i64 j]=some [some (.int .u8 c.toNat)]:=by
 have:(0:Int)<=(j:Int):=am
 simp[AQ,WH,h,this]
def K8(s:List UInt8)(l h:Nat)(d:l<=h:=by omega)(c:h<=s.length:=by omega):AQ (.ssl true true) [.str s,.int .i64 (l:Nat),.int .i64 (h:Nat)]=some [some (.str ((s.drop l).take (h - l)))]:=by
 have e:(0:Int)<=(l:Int):=am
 have a:(l:Int)<=(h:Int):=am
 have b:(h:Int)<=(s.length:Int):=am
 simp[AQ,QP,a,b]
def BZF(s t:Nat)(v:Option PV)(ff:FF):FQ ((s,v)::ff) t=if s=t then v else FQ ff t:=by
 by_cases h:s=t
 ·subst h;rw[if_pos rfl,L6];have:Nat.beq s s=true:=Nat.beq_refl _;simp[this]
 ·rw[if_neg h,L6];cases a:Nat.beq s t with
  |false=>simp[a]
  |true=>exact absurd (CQ a) h
section
variable(k:IntKind)(x:Int)(s:List UInt8)(b:Bool)(o:Bool)(z:Nat)(l:List PV)
def vd1:(PV.int k x).Ag=.int k x:=rfl
def vd2:(PV.str s).Ag=.str s:=rfl
def vd3:(PV.bool b).Ag=.bool b:=rfl
def vd4:PV.nils.Ag=.nils:=rfl
def vd5:(PV.slice o z l).Ag=.slice false z l:=rfl
def vf1:(PV.int k x).free=true:=rfl
def vf2:(PV.str s).free=true:=rfl
def vf3:(PV.bool b).free=true:=rfl
def vf4:PV.nils.free=true:=rfl
def vf5:(PV.slice o z l).free=true:=rfl
def vg1:(PV.int k x).flat=true:=rfl
def vg2:(PV.str s).flat=true:=rfl
def vg3:(PV.bool b).flat=true:=rfl
def vg4:PV.nils.flat=true:=rfl
def vg5:(PV.slice o z l).flat=true:=rfl
end
attribute [simp] BZF vd1 vd2 vd3 vd4 vd5 vf1 vf2 vf3 vf4 vf5 vg1 vg2 vg3 vg4 vg5
end Go.Abs.Z

namespace Go.Abs.Z
noncomputable section
open Go.Proofs Go.RowKit
abbrev E:=Ev run
abbrev LE:=IM pur run
def lps:De->List (List Bool×De)
 |.seq a b=>lps a++lps b
 |.cond _ a b=>lps a++lps b
 |.block _ a=>lps a
 |.loop k a=>(k,a)::lps a
 |_=>[]
def ml(f:Ay)(k:Nat):List Bool:=((lps f.code).getD k ([],.skip)).1
def lc(f:Ay)(k:Nat):De:=((lps f.code).getD k ([],.skip)).2
abbrev LL(f:Ay)(k:Nat):=LE (ml f k) (lc f k)
abbrev N(n:Nat):PV:=.int .i64 (n:Int)
abbrev I(x:Int):PV:=.int .i64 x
def Rn(f:FuncId)(b:Ay):Prop:=∀n args a,run (n+1) f args a=Lp pur (run n) n b args a
structure Stp where
 g:Nat
 a:Ans
 q:Prop->Prop
 pf:∀{x:Prop},x->q x
section
variable{R:Nat->Caller}{k:AK}{vs:List PV}{σ D:Sto}{A:List (Option PV)}
def st(g:Nat)(h:Bt pur R k vs σ A D):Stp:=⟨g,.res A (some D),λx=>Bt pur R k vs σ A D/\x,λx=>⟨h,x⟩⟩
def sg(g:Nat)(h:Bt pur R k vs σ A D):Stp:=⟨g,.grdr A (some D),λx=>Bt pur R k vs σ A D/\(some true=some true/\x),λx=>⟨h,rfl,x⟩⟩
def sp(g:Nat){k:PK}(h:AQ k vs=some A):Stp:=⟨g,.res A none,λx=>(∀(R:Nat->Caller) (σ:Sto),Bt pur R (.p k) vs σ A σ)/\x,λx=>⟨λ_ _=>GK h,x⟩⟩
def sq(g:Nat){k:PK}(h:AQ k vs=some A):Stp:=⟨g,.grdr A none,λx=>(∀(R:Nat->Caller) (σ:Sto),Bt pur R (.p k) vs σ A σ)/\(some true=some true/\x),λx=>⟨λ_ _=>GK h,rfl,x⟩⟩
def sl(g:Nat)(ls:List Nat){a:List Bool}{c:De}{ff b:FF}{e:CE}(h:IM pur R a c ff σ e b D):Stp:=⟨g,.loop ls e b D,λx=>IM pur R a c ff σ e b D/\x,λx=>⟨h,x⟩⟩
end
def Ko(l:List Stp):Tape:=List.rec (motive:=λ_=>Tape) [] (λs _ a=>(s.g,s.a)::a) l
def qOf(l:List Stp):Prop->Prop:=List.rec (motive:=λ_=>Prop->Prop) (λx=>x) (λs _ a x=>a (s.q x)) l
def Mq:∀(l:List Stp) {x:Prop},x->qOf l x
 |[],_,h=>h
 |s::l,_,h=>Mq l (s.pf h)
def rn{f:FuncId}{a:Ay}(h:Rn f a:=by exact λ_ _ _=>by kernel_rfl):Rn f a:=h
abbrev BM(k:PK)(vs:List PV)(r:PV):Prop:=AQ k vs=some [some r]
abbrev EvE(f:FuncId)(a:List PV)(r:PV):Prop:=E f a [] r []
abbrev slF(n:Nat)(l:List PV):PV:=.slice false n l
def rule{f:FuncId}{c:Ay}{args:List PV}{b a:Sto}{r:PV}(d:Rn f c)(l:List Stp)(h:runT pur run c args b (Ko l)=some (r,a,qOf l True):=by kernel_rfl):E f args b r a:=AzK (λn=>d n args b) (Mq l trivial) h
def Br{f:FuncId}{d:Ay}{args:List PV}{b a:Sto}{r:PV}{ff:FF}{c:List (Nat×Option Nat)}(e:Rn f d)(l:List Stp)(g:(FE ff c).bind CX=some r)(h:uV pur run d args b (Ko l) r=some (r,a,(FE ff c).bind CX=some r/\qOf l True):=by kernel_rfl):E f args b r a:=xK (λn=>e n args b) ⟨g,Mq l trivial⟩ h
def BC{a:List Bool}{c:De}{ff b d:FF}{i g f:Sto}{e:CE}(ls:List Nat)(l:List Stp)(j:IM pur run a c b g e d f)(h:mi pur run a c ls ff i (Ko l)=some (b,g,qOf l True):=by kernel_rfl):IM pur run a c ff i e d f:=Xb (Mq l trivial) j h
def Bw{a:List Bool}{c:De}{ff b:FF}{f d:Sto}{e:CE}(ls:List Nat)(l:List Stp)(h:Z6 pur run c ls ff f (Ko l)=some (e,b,d,qOf l True):=by kernel_rfl):IM pur run a c ff f e b d:=TJ (Mq l trivial) h
def P{k:PK}{vs:List PV}{a:List (Option PV)}(h:AQ k vs=some a):Bt pur run (.p k) vs [] a []:=GK h
def PS(a:Sto){k:PK}{vs:List PV}{b:List (Option PV)}(h:AQ k vs=some b):Bt pur run (.p k) vs a b a:=GK h
def Q{k:RK}{vs:List PV}{a:List (Option PV)}(h:Dq k vs []=some a):Bt pur run (.r k) vs [] a []:=AYW h
def QS(a:Sto){k:RK}{vs:List PV}{b:List (Option PV)}(h:Dq k vs a=some b):Bt pur run (.r k) vs a b a:=AYW h
def FC{f:FuncId}{args:List PV}{b a:Sto}{r:PV}(N:Nat)(h:∀n,N<=n->run (n+1) f args b=some (r,a)):E f args b r a:=
 ⟨N+1,λn c=>by obtain⟨n,rfl⟩:∃m,n=m+1:=⟨n - 1,am⟩;exact h n am⟩
def BI(size:Nat):List PV->PV
 |[]=>.nils
 |es=>.slice true size es
def Ci(size:Nat):List PV->PV
 |[]=>.nils
 |es=>.slice false size es
section
variable{σ:Sto}{k:IntKind}
def Lb{v x:PV}(a:v.free=true)(h:v.Ag=x):AQ .mv [v]=some [some x]:=by rw[p_mv v a,h]
def MB(size:Nat)(es:List PV):(BI size es).Ag=Ci size es:=by cases es<;>rfl
def Ru(size:Nat)(es:List PV):(Ci size es).Ag=Ci size es:=by cases es<;>rfl
def U0(size:Nat)(es:List PV):(BI size es).free=true:=by cases es<;>rfl
def XK(size:Nat)(es:List PV):(Ci size es).free=true:=by cases es<;>rfl
def XL(size:Nat)(es:List PV):(Ci size es).flat=true:=by cases es<;>rfl
def iA(size:Nat)(es:List PV):(BI size es).flat=true:=by cases es<;>rfl
def QH(T:Tr):T.kp.Ag=T.kp:=by
 obtain⟨k,t,a,e,n,ks⟩:=T;cases n<;>rfl
def Az5(T:Tr):T.kp.Ck=T.kp:=T.mP.1
def Z7(T:Tr):T.kp.free=true:=by
 obtain⟨k,t,a,e,n,ks⟩:=T;cases n<;>rfl
def Az6(T:Tr):T.kp.flat=true:=by
 obtain⟨k,t,a,e,n,ks⟩:=T;cases n<;>rfl
def Xa(T:Tr):AQ .mv [T.kp]=some [some T.kp]:=Lb (Z7 T) (QH T)
def jK(size:Nat)(es:List PV):AQ .mv [BI size es]=some [some (Ci size es)]:=Lb (U0 ..) (MB ..)
def NK(size:Nat)(es:List PV):AQ .mv [Ci size es]=some [some (Ci size es)]:=Lb (XK ..) (Ru ..)
def AU4{v x:PV}(a:v.free=true)(h:v.Ag=x):AQ .mvo [v]=some [some v,some x]:=by
 show(if v.free=true then _ else _)=_
 rw[if_pos a,h]
def JD(size:Nat)(es:List PV):AQ .mvo [BI size es]=some [some (BI size es),some (Ci size es)]:=AU4 (U0 ..) (MB ..)
def nD{v x:PV}(a:v.flat=true)(h:v.Ag=x):AQ .bx [v]=some [some (.vptr x)]:=by rw[p_bx v a,h]
def BQ(T:Tr):AQ .bx [T.pv]=some [some (.vptr T.pv)]:=nD T.Pj T.Ef
def BqB{cs:List PV}{x:PV}(h:(PV.agg cs).Ag=x):AQ .bx [.agg cs]=some [some (.vptr x)]:=nD rfl h
def BqA{v x:PV}(a:v.okc=true)(h:v.Ag=x):AQ .bxl [v]=some [some x]:=by
 show(if v.okc=true then _ else _)=_
 rw[if_pos a,h]
def aJ(T:Tr):AQ .bxl [T.pv]=some [some T.pv]:=BqA T.Tj T.Ef
def BD(T:Tr):AQ (.sti 5) [.hole 5,T.pv]=some [some (.vptr T.pv)]:=by
 show(if _ then _ else _)=_
 rw[if_pos ⟨rfl,T.Mr,T.Pj,T.Pi⟩,T.Ef]
def Xe{n:Nat}{ag:Bool}{v x:PV}(a:fits n ag v=true)(b:v.free=true)(h:v.Ag=x):Dq (.ld n ag) [.vptr v] σ=some [some x]:=by
 show(if fits n ag v=true/\v.free=true then some v else none).map (λv=>[some v.Ag])=_
 rw[if_pos ⟨a,b⟩,<-h];rfl
def AL(T:Tr):Dq (.ld 5 true) [.vptr T.pv] σ=some [some T.pv]:=Xe (by rw[Tr.He];rfl) T.RZ T.Ef
def EE(T:Tr):Dq (.ld 1 false) [.vptr T.kp] σ=some [some T.kp]:=Xe (by obtain⟨k,t,a,e,n,ks⟩:=T;cases n<;>rfl) (Z7 T) (QH T)
def wR(T:Tr):AQ (.ldp 5 true) [.vptr T.pv]=some [some T.pv]:=by
 show(if fits 5 true T.pv=true/\T.pv.free=true then some T.pv else none).map (λv=>[some v.Ag])=_
 rw[if_pos ⟨by rw[Tr.He];rfl,T.RZ⟩,AJ,T.Ef]
def BX(T:Tr):AQ (.fa 0 1 false) [.vptr T.pv]=some [some (.vptr (.int .i64 T.kind))]:=by rw[Tr.He];rfl
def Er(T:Tr):AQ (.fa 1 1 false) [.vptr T.pv]=some [some (.vptr (.str T.text))]:=by rw[Tr.He];rfl
def DD(T:Tr):AQ (.fa 2 1 false) [.vptr T.pv]=some [some (.vptr (.int .i64 T.st))]:=by rw[Tr.He];rfl
def FV(T:Tr):AQ (.fa 3 1 false) [.vptr T.pv]=some [some (.vptr (.int .i64 T.en))]:=by rw[Tr.He];rfl
def DI(T:Tr):AQ (.fa 4 1 false) [.vptr T.pv]=some [some (.vptr T.kp)]:=by rw[Tr.He];exact BQD T.mP
def EZ{T:Tr}(h:T.wf):AQ (.len false) [T.kp]=some [some (.int .i64 (T.kids.length:Nat))]:=by
 obtain⟨k,t,a,e,n,ks⟩:=T;cases n
 ·show some [some (PV.int .i64 ((Tr.pvs ks).length:Nat))]=_;rw[Tr.Du,Ap];rfl
 ·have:ks=[]:=h.1 rfl;subst this;rfl
def IC(o:Bool)(s:Nat)(ts:List Tr):AQ (.len false) [.slice o s (Tr.pvs ts)]=some [some (.int .i64 (ts.length:Nat))]:=by
 show some [some (PV.int .i64 ((Tr.pvs ts).length:Nat))]=_;rw[Tr.Du,Ap]
def Pz(o:Bool)(s:Nat)(ts:List (List UInt8)):AQ (.len false) [.slice o s (ts.map .str)]=some [some (.int .i64 (ts.length:Nat))]:=by
 show some [some (PV.int .i64 ((ts.map PV.str).length:Nat))]=_;rw[Ap]
def fG(size:Nat)(es:List PV):AQ (.len false) [Ci size es]=some [some (.int .i64 (es.length:Nat))]:=by cases es<;>rfl
def Jf{o:Bool}{s:Nat}{ts:List Tr}{U:Tr}(j:Nat)(h:ts[j]?=some U):AQ (.idx s) [.slice o s (Tr.pvs ts),.int .i64 (j:Nat)]=some [some (.vptr U.pv)]:=
 Nb _ _ _ _ _ (by rw[Tr.Du,Al,h];rfl)
def T9{o:Bool}{s:Nat}{ts:List (List UInt8)}{t:List UInt8}(j:Nat)(h:ts[j]?=some t):AQ (.idx s) [.slice o s (ts.map .str),.int .i64 (j:Nat)]=some [some (.vptr (.str t))]:=
 Nb _ _ _ _ _ (by rw[Al,h];rfl)
def EL{T U:Tr}(j:Nat)(w:T.wf)(h:T.kids[j]?=some U):AQ (.idx 5) [T.kp,.int .i64 (j:Nat)]=some [some (.vptr U.pv)]:=by
 obtain⟨k,t,a,e,n,ks⟩:=T;cases n with
 |false=>exact Jf j h
 |true=>
  have:ks=[]:=w.1 rfl;subst this;cases h
def Il{a:BinOp}{c:Nat}{x y:PV}{e v:Bool}(h:e=v)(b:AQ (.bin a c) [x,y]=some [some (.bool e)]):AQ (.bin a c) [x,y]=some [some (.bool v)]:=by rw[b,h]
def XD{a:Type}[BEq a][LawfulBEq a]{x y:a}(h:x=y):(x==y)=true:=by simp[h]
def XC{a:Type}[BEq a][LawfulBEq a]{x y:a}(h:x≠y):(x==y)=false:=by simp[h]
def pO{a:Type}[BEq a][LawfulBEq a]{x y:a}(h:x=y):(x != y)=false:=by simp[h]
def pM{a:Type}[BEq a][LawfulBEq a]{x y:a}(h:x≠y):(x != y)=true:=by simp[h]
def jJ{a:Type}[BEq a][LawfulBEq a]{x y:a}(h:x=y):(!(x==y))=false:=by simp[h]
def jI{a:Type}[BEq a][LawfulBEq a]{x y:a}(h:x≠y):(!(x==y))=true:=by simp[h]
def kH{x y z:Int}(h:k.wrap (x+y)=z):AQ (.bin .add 0) [.int k x,.int k y]=some [some (.int k z)]:=by
 rw[<-h];cases k<;>rfl
def XZ{x y z:Int}(h:k.wrap (x - y)=z):AQ (.bin .sub 0) [.int k x,.int k y]=some [some (.int k z)]:=by
 rw[<-h];cases k<;>rfl
def jL{x y z:Int}(h:k.wrap (x * y)=z):AQ (.bin .mul 0) [.int k x,.int k y]=some [some (.int k z)]:=by
 rw[<-h];cases k<;>rfl
def AO(j m:Nat)(h:j<2000000000)(a:m<2000000000:=by decide):AQ (.bin .add 0) [.int .i64 (j:Nat),.int .i64 (m:Nat)]=some [some (.int .i64 ((j+m:Nat):Int))]:=by
 apply kH;simp[IntKind.wrap,IntKind.bits,IntKind.signed];omega
def Es{a b:List UInt8}(h:a.length+b.length<=CL):AQ (.bin .add 0) [.str a,.str b]=some [some (.str (a++b))]:=by
 show(pQ .add a b).map (λv=>[some v])=_
 simp only[pQ];rw[if_pos h];rfl
def aF{a:IntKind}{x z:Int}(h:a.wrap x=z):AQ (.cvt a) [.int k x]=some [some (.int a z)]:=by rw[<-h];rfl
def LA(i:Nat){vs:List PV}{v x:PV}(h:vs[i]?=some v)(a:vs.all PV.free=true/\v.Ag=x):AQ (.ext i) [.tuple vs]=some [some x]:=by
 show(if vs.all PV.free=true then _ else _)=_
 rw[if_pos a.1,h,AJ,a.2]
def QU{size:Nat}{vs a:List PV}(h:vs.all (λv=>v.cells.length==size&&v.flat)=true:=by simp)(b:vs.map PV.Ag=a:=by simp):AQ (.bsl size) vs=some [some (.slice true size a)]:=by
 show(if vs.all (λv=>v.cells.length==size&&v.flat)=true then _ else _)=_
 rw[if_pos h,b]
def nG{size:Nat}{s x:PV}{es xs:List PV}(a:RJ size s=some es)(e:RI size x=some xs)(c:xs.isEmpty=false)(d:es.length+xs.length<=Bo)(b:xs.all PV.ones=true):AQ (.app size) [s,x]=some [some (.slice true size (es++xs)),some s.Ag]:=by
 show AzV size s x=_;unfold AzV;rw[a,e];dsimp only;rw[if_neg (by simp[c]),if_pos ⟨d,b⟩]
def Kg{size:Nat}{es xs:List PV}{o:Bool}(b:es.length+xs.length<=Bo)(h:xs.isEmpty=false/\xs.all PV.ones=true:=by simp):AQ (.app size) [BI size es,.slice o size xs]=some [some (BI size (es++xs)),some (Ci size es)]:=by
 have c:RI size (.slice o size xs)=some xs:=by simp[RI]
 have a:RJ size (BI size es)=some es:=by cases es<;>simp[BI,RJ]
 rw[nG a c h.1 b h.2,MB];cases es with
 |nil=>cases xs with
  |nil=>simp at h
  |cons=>rfl
 |cons=>rfl
def NV{size:Nat}{a:Bool}{es xs:List PV}(d:es.length+xs.length<=Bo)(b:xs.isEmpty=false)(c:xs.all PV.ones=true):AQ (.app size) [.slice true size es,.slice a size xs]=some [some (.slice true size (es++xs)),some (.slice false size es)]:=
 nG (by simp[RJ]) (by simp[RI]) b d c
def yn{zero:List PV}{a:List (Nat×Nat)}{vs cs:List PV}(h:Rk zero a vs=some cs):AQ (.build zero a) vs=some [some (.agg cs)]:=by
 show(Rk zero a vs).map _=_;rw[h];rfl
def iZ{off n:Nat}{c v r:PV}(a:v.cells.length=n)(d:v.okc=true)(b:v.ones=true)(h:upd c off v.Ag=some r):AQ (.stl off n) [c,v]=some [some r]:=by
 show(if _ then _ else _)=_
 rw[if_pos ⟨a,d,b⟩,h];rfl
def zg{c x:PV}(a:c.cells.length=5)(h:x.cells.length=5)(d:∃cs,c=.agg cs)(b:∃xs,x=.agg xs):upd c 0 x=some x:=by
 obtain⟨cs,rfl⟩:=d;obtain⟨xs,rfl⟩:=b;simp only[PV.cells] at h a;show(if _ then _ else _)=_
 rw[if_pos (by simp[PV.cells,h,a])]
 simp[PV.cells,h,a]
def kY{c:PV}(T:Tr)(a:c.cells.length=5)(b:∃cs,c=.agg cs):AQ (.stl 0 5) [c,T.pv]=some [some T.pv]:=
 iZ T.Mr T.Tj T.Pi (by rw[T.Ef];exact zg a T.Mr b ⟨_,T.He⟩)
def IA(a b c d e:PV)(T:Tr):AQ (.stl 0 5) [.agg [a,b,c,d,e],T.pv]=some [some T.pv]:=kY T rfl ⟨_,rfl⟩
def Iz(U T:Tr):AQ (.stl 0 5) [U.pv,T.pv]=some [some T.pv]:=kY T U.Mr ⟨_,U.He⟩
section
variable{x y:Int}
def AZ(k:IntKind)(h:x<y):AQ (.bin .lss 0) [.int k x,.int k y]=some [some (.bool true)]:=Il (e:=decide (x<y)) (decide_eq_true h) (by cases k<;>rfl)
def Bh(k:IntKind)(h:¬x<y):AQ (.bin .lss 0) [.int k x,.int k y]=some [some (.bool false)]:=Il (e:=decide (x<y)) (decide_eq_false h) (by cases k<;>rfl)
def KW(k:IntKind)(h:x<=y):AQ (.bin .leq 0) [.int k x,.int k y]=some [some (.bool true)]:=Il (e:=decide (x<=y)) (decide_eq_true h) (by cases k<;>rfl)
def LC(k:IntKind)(h:¬x<=y):AQ (.bin .leq 0) [.int k x,.int k y]=some [some (.bool false)]:=Il (e:=decide (x<=y)) (decide_eq_false h) (by cases k<;>rfl)
def CF(k:IntKind)(h:x>y):AQ (.bin .gtr 0) [.int k x,.int k y]=some [some (.bool true)]:=Il (e:=decide (x>y)) (decide_eq_true h) (by cases k<;>rfl)
def Cz(k:IntKind)(h:¬x>y):AQ (.bin .gtr 0) [.int k x,.int k y]=some [some (.bool false)]:=Il (e:=decide (x>y)) (decide_eq_false h) (by cases k<;>rfl)
def Gi(k:IntKind)(h:x>=y):AQ (.bin .geq 0) [.int k x,.int k y]=some [some (.bool true)]:=Il (e:=decide (x>=y)) (decide_eq_true h) (by cases k<;>rfl)
def Im(k:IntKind)(h:¬x>=y):AQ (.bin .geq 0) [.int k x,.int k y]=some [some (.bool false)]:=Il (e:=decide (x>=y)) (decide_eq_false h) (by cases k<;>rfl)
def Bz(k:IntKind)(h:x=y):AQ (.bin .eql 0) [.int k x,.int k y]=some [some (.bool true)]:=Il (e:=(x==y)) (XD h) (by cases k<;>rfl)
def Bb(k:IntKind)(h:x≠y):AQ (.bin .eql 0) [.int k x,.int k y]=some [some (.bool false)]:=Il (e:=(x==y)) (XC h) (by cases k<;>rfl)
def C8(k:IntKind)(h:x≠y):AQ (.bin .neq 0) [.int k x,.int k y]=some [some (.bool true)]:=Il (e:=(x != y)) (pM h) (by cases k<;>rfl)
def Dr(k:IntKind)(h:x=y):AQ (.bin .neq 0) [.int k x,.int k y]=some [some (.bool false)]:=Il (e:=(x != y)) (pO h) (by cases k<;>rfl)
end
section
variable{x y:List UInt8}
def Jb(h:x=y):AQ (.bin .eql 0) [.str x,.str y]=some [some (.bool true)]:=Il (e:=(x==y)) (XD h) rfl
def II(h:x≠y):AQ (.bin .eql 0) [.str x,.str y]=some [some (.bool false)]:=Il (e:=(x==y)) (XC h) rfl
def AK8(h:x≠y):AQ (.bin .neq 0) [.str x,.str y]=some [some (.bool true)]:=Il (e:=(!(x==y))) (jI h) rfl
def uQ(h:x=y):AQ (.bin .neq 0) [.str x,.str y]=some [some (.bool false)]:=Il (e:=(!(x==y))) (jJ h) rfl
end
def Et(ff:FF)(t:Nat)(n:Option Nat)(a:List (Nat×Option Nat)):FE ff ((t,n)::a)=(match FQ ff t,FE ff a with | some v,some vs=>if LU v n then some (v.Ag::vs) else(M5 v n).map λr=>r::vs | _,_=>none):=rfl
def lV(ff:FF):FE ff []=some []:=rfl
def BZ1(T:Tr):LU T.pv (some 5)=true:=by rw[Tr.He];obtain⟨k,t,a,e,n,ks⟩:=T;cases n<;>rfl
def ok_none(v:PV):LU v none=v.free:=rfl
def UZ(cs:List PV):(PV.agg cs).Ag=.agg (cs.map PV.Ck):=rfl
def vH(k:IntKind)(x:Int):(PV.int k x).Ck=.int k x:=rfl
def vG(x:List UInt8):(PV.str x).Ck=.str x:=rfl
def om(x:Bool):(PV.bool x).Ck=.bool x:=rfl
def ol:PV.nils.Ck=.nils:=rfl
def jC(o:Bool)(s:Nat)(x:List PV):(PV.slice o s x).Ck=.slice false s x:=rfl
def fe(size:Nat)(es:List PV):(BI size es).Ck=Ci size es:=by cases es<;>rfl
def oo(size:Nat)(es:List PV):(Ci size es).Ck=Ci size es:=by cases es<;>rfl
def yK(cs:List PV):(PV.agg cs).free=true:=rfl
def yL(cs:List PV):(PV.agg cs).flat=true:=rfl
def XR(cs:List PV):(PV.tuple cs).Ag=.tuple cs:=rfl
def iI(cs:List PV):(PV.tuple cs).flat=cs.all PV.KO:=by simp[PV.flat]
def iH(cs:List PV):(PV.tuple cs).free=true:=rfl
def o8(k:IntKind)(x:Int):(PV.int k x).KO=true:=rfl
def o7(x:List UInt8):(PV.str x).KO=true:=rfl
def jT(x:Bool):(PV.bool x).KO=true:=rfl
def xL(T:Tr):T.pv.KO=true:=by rw[Tr.He];rfl
def gz(o:Bool)(s:Nat)(x:List PV):(PV.slice o s x).KO=true:=rfl
def jS:PV.nils.KO=true:=rfl
def jU(size:Nat)(es:List PV):(Ci size es).KO=true:=by cases es<;>rfl
def pI(cs:List PV):(PV.agg cs).cells=cs:=rfl
def vR(cs:List PV):(PV.agg cs).ones=cs.all PV.one:=rfl
def AYY(T:Tr):T.kp.one=true:=by obtain⟨k,t,a,e,n,ks⟩:=T;cases n<;>rfl
def AxO(T:Tr):T.pv.ones=true:=T.Pi
def yg(T:Tr):T.pv.cells.length=5:=T.Mr
def vO(x:List UInt8):(PV.str x).ones=true:=rfl
def vQ(k:IntKind)(x:Int):(PV.int k x).ones=true:=rfl
def AxP(x:List UInt8):(PV.str x).one=true:=rfl
def AxQ(k:IntKind)(x:Int):(PV.int k x).one=true:=rfl
def AKG(T:Tr):T.pv.Fz=false:=by rw[Tr.He];rfl
def nK(T:Tr):T.pv.Ag=T.pv:=T.Ef
def zn(T:Tr):T.pv.flat=true:=T.Pj
def zm(T:Tr):T.pv.free=true:=T.RZ
end
attribute [simp] QH Az5 Z7 Az6 MB Ru U0 XK XL iA nK zn zm BZ1 ok_none UZ vH vG om ol jC fe oo yK yL XR iI iH
 o8 o7 jT xL gz jS jU pI vR AYY AxO yg AKG lV vO vQ AxP AxQ
def oC{f:FuncId}{xs:List PV}{r:PV}{s:Sto}(h:E f xs [] r s)(a:(xs.all PV.free&&xs.all PV.flat)=true/\xs.map PV.Ag=xs/\r.flat=true/\r.Ag=r:=by first | exact⟨rfl,rfl,rfl,rfl⟩ | simp):Bt pur run (.c f) xs [] [some r] []:=MK h a.2.1 a.1 a.2.2.1 a.2.2.2
def oCS(b:Sto){f:FuncId}{xs:List PV}{r:PV}{s:Sto}(h:E f xs [] r s)(a:(xs.all PV.free&&xs.all PV.flat)=true/\xs.map PV.Ag=xs/\r.flat=true/\r.Ag=r:=by first | exact⟨rfl,rfl,rfl,rfl⟩ | simp):Bt pur run (.c f) xs b [some r] b:=MK h a.2.1 a.1 a.2.2.1 a.2.2.2
end
end Go.Abs.Z

namespace Go.Abs.Z
open Go.Proofs Go.RowKit
noncomputable def Cb(n:Nat):Caller:=λf args a=>match args,a with
 |[],[]=>if f=6 then some (.bool true,[]) else run n f [] []
 |args,a=>run n f args a
def xy:∀x:Option (PV×Sto),AkS x=true->∃s,x=some (.bool true,s)
 |some (.bool true,s),_=>⟨s,rfl⟩
def yz:∃s,AKA 200 6 [] []=some (.bool true,s):=xy _ kE
def iy{P:Program}{f:FuncId}{args:List PV}{r:PV}{s:Sto}(h:LD P f args [] r s)(m:∀(I:Imm) (bl:Bl) (w:World) (v:Value),BF I bl w v r->∀(I':Imm) (c:Bl) (j:World),BF I' c j v r):LD P f args [] r []:=by
 refine⟨h.1,λn vs w G K k d=>(h.2 n vs w G K k d).mono ?_⟩
 rintro e j ⟨v,G',rfl,l,b⟩
 have i:G.bl.l=[]:=Ak.1 d.len;refine⟨v,⟨G'.I,G'.ω,Bl.nil⟩,rfl,m _ _ _ _ l _ _ _,⟨b.keep,b.same,b.sub,b.new,b.lt,b.own,b.grow,⟨?_,λid g a h=>?_⟩,b.os,b.tape,b.output,λid cs h=>by simp at h,rfl,λid g a h=>by cases h⟩⟩
 ·rw[i];exact List.prefix_refl _
 ·have:=d.abl id g a h;simp at this
set_option maxRecDepth 100000 in
def jf(n:Nat):Iu Tryz.prog (Cb n):=by
 intro f args σ r σ' hown h;unfold Cb at h
 split at h
 ·split at h
  ·rename_i hf;subst hf;cases h;obtain⟨s,hs⟩:=yz;refine iy (je 200 6 [] [] _ s hown hs) λI bl w v hv I' bl' w'=>?_
   have:=hv.Iq;subst this;exact .one (.inl (.bool true))
  ·exact Qm n f [] [] r σ' hown h
 ·exact Qm n f _ _ r σ' hown h
def BjT(n:Nat):Cb n 6 [] []=some (.bool true,[]):=rfl
def aZ(c:Ay)(args:List PV)(b:Sto)(r:PV)(a:Sto):Prop:=∃N,∀n,N<=n->Lp pur (Cb n) n c args b=some (r,a)
def cu{b:Ay}{args:List PV}{t f:Sto}{r:PV}(l:List Stp)(h:runT pur Cb b args t (Ko l)=some (r,f,qOf l True):=by kernel_rfl):aZ b args t r f:=by
 have v:=Mq l trivial
 revert v h
 generalize qOf l True=q;generalize Ko l=D;intro h v;unfold runT at h;cases z:(Nat.beq args.length b.nargs&&Nat.ble args.length b.ntmps) with
 |false=>rw[z] at h;cases h
 |true=>
  rw[z] at h;cases a:Io pur Cb b.code (Np args 0) t D True with
  |none=>rw[a] at h;cases h
  |some o=>
   rw[a] at h;obtain⟨_,y⟩:=GA b.code a;obtain⟨e,j,w,t1,u⟩:=o;dsimp only[cond_true] at h y
   have m:∀{e},e=.normal\/e=.ret->Ny pur Cb b.code (Np args 0) t e j w->
     (Option.rec (motive:=λ_=>Option (PV×Sto×Prop)) none (λvs=>Option.rec (motive:=λ_=>Option (PV×Sto×Prop)) none (λr=>some (r,w,u)) (CX vs)) (FE j b.results))=some (r,f,q)->aZ b args t r f:=by
    intro e E F g;cases d:FE j b.results with
    |none=>rw[d] at g;cases g
    |some vs=>
     rw[d] at g;dsimp only at g;cases c:CX vs with
     |none=>rw[c] at g;cases g
     |some p=>
      rw[c] at g;cases g;obtain⟨N,H⟩:=F;refine⟨N,λn I=>?_⟩
      obtain⟨C,G,a2⟩:=H n am _ (Sub.refl _)
      unfold Lp;rw[z,G];have k:=Pb a2 _ _ d;rcases E with rfl | rfl
      ·dsimp only[cond_true];rw[k];simp[c]
      ·dsimp only[cond_true];rw[k];simp[c]
   have A:∀{x},Tx e (Option.rec (motive:=λ_=>Option (PV×Sto×Prop)) none (λvs=>Option.rec (motive:=λ_=>Option (PV×Sto×Prop)) none (λr=>some (r,w,u)) (CX vs)) (FE j b.results))=some x->x.2.2=q->u:=by
    intro x a s;cases e with
    |exit i=>cases a
    |normal=>
     cases d:FE j b.results with
     |none=>simp only[Tx,d] at a;cases a
     |some vs=>
      simp only[Tx,d] at a;cases c:CX vs with
      |none=>rw[c] at a;cases a
      |some p=>rw[c] at a;cases a;exact(show u=q from s)▸v
    |ret=>
     cases d:FE j b.results with
     |none=>simp only[Tx,d] at a;cases a
     |some vs=>
      simp only[Tx,d] at a;cases c:CX vs with
      |none=>rw[c] at a;cases a
      |some p=>rw[c] at a;cases a;exact(show u=q from s)▸v
   have B:=A h rfl;cases e with
   |exit i=>cases h
   |normal=>exact m (.inl rfl) (y B) h
   |ret=>exact m (.inr rfl) (y B) h
def evA{f:FuncId}{x:PV}{xs:List PV}{r:PV}{s:Sto}(h:E f (x::xs) [] r s):Ev Cb f (x::xs) [] r s:=by
 obtain⟨N,H⟩:=h;exact⟨N,λn a=>H n a⟩
def xQ:Ev Cb 6 [] [] (.bool true) []:=⟨0,λn _=>BjT n⟩
abbrev LR:=IM pur Cb
abbrev LM(f:Ay)(k:Nat):=LR (ml f k) (lc f k)
def Qs{a:List Bool}{c:De}{ff b d:FF}{i g f:Sto}{e:CE}(ls:List Nat)(l:List Stp)(j:IM pur Cb a c b g e d f)(h:mi pur Cb a c ls ff i (Ko l)=some (b,g,qOf l True):=by kernel_rfl):IM pur Cb a c ff i e d f:=Xb (Mq l trivial) j h
def AKC{a:List Bool}{c:De}{ff b:FF}{f d:Sto}{e:CE}(ls:List Nat)(l:List Stp)(h:Z6 pur Cb c ls ff f (Ko l)=some (e,b,d,qOf l True):=by kernel_rfl):IM pur Cb a c ff f e b d:=TJ (Mq l trivial) h
def PA{k:PK}{vs:List PV}{a:List (Option PV)}(h:AQ k vs=some a):Bt pur Cb (.p k) vs [] a []:=GK h
def QA{k:RK}{vs:List PV}{a:List (Option PV)}(h:Dq k vs []=some a):Bt pur Cb (.r k) vs [] a []:=AYW h
def oCA{f:FuncId}{xs:List PV}{r:PV}{s:Sto}(h:Ev Cb f xs [] r s)(a:(xs.all PV.free&&xs.all PV.flat)=true/\xs.map PV.Ag=xs/\r.flat=true/\r.Ag=r:=by first | exact⟨rfl,rfl,rfl,rfl⟩ | simp):Bt pur Cb (.c f) xs [] [some r] []:=MK h a.2.1 a.1 a.2.2.1 a.2.2.2
def AUA{f:FuncId}{b:Ay}{args:List PV}{e:Sto}(a:Aj3 f b)(j:∀p∈args,p.Ag=p)(h:aZ b args [] (.bool true) e):LD Tryz.prog f args [] (.bool true) []:=by
 obtain⟨n,fi,d,m,i,k⟩:=a;obtain⟨N,H⟩:=h;refine iy (gu mixed d m i (jf N) j (SV k (H N (Ai _)))) λI bl w v g I' l o=>?_
 have:=g.Iq;subst this;exact .one (.inl (.bool true))
end Go.Abs.Z
