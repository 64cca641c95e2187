/- A part of the proof: A15 A16 A17 A18 A19 A20 A21 A22 A23 A24 A25. -/
import Derived.Test.YtgkkkgbknfhbaaaGreatDoorKab
import Derived.Laws.CopyRow
import Derived.Laws.Append
import Derived.Deep.AppendSrc
import Derived.Deep.Upon

set_option linter.all false
namespace Go.Abs
open Go.RowKit
def Gh.retag(G:Gh)(b:Nat)(a:Tag):Gh:=⟨G.I,λc=>if c=b then some a else G.ω c,G.bl⟩
section
variable{P:Program}{pur:FuncId->Bool}{call:Caller}{fi:FI}{cx:Cx}{G:Gh}{a:Act}{w:World}{A A':Frm}{σ T:Sto}
def UJ(c:Base cx G w){b:Nat}{g d:Tag}(h:G.ω b=some g):Base cx (G.retag b d) w:=by
 refine⟨c.keep,c.same,c.sub,c.new,c.lt,λi j f=>?_,c.Klt,c.grow,c.bl,c.os,c.tape,c.output⟩
 simp only[Gh.retag] at f
 split at f
 ·rename_i e;subst e;exact c.own _ _ h
 ·exact c.own _ _ f
def Xv{X:Tag->Prop}{b:Nat}{f c:Tag}(h:G.ω b=some f)(g:X f):Ext X G (G.retag b c) w w:=by
 refine⟨λ_ _ h=>h,Same.refl _ _,Bl.le_refl _,λ_ _ _ _=>rfl,λi k d j=>⟨?_,rfl,λ_ h=>h⟩⟩
 have:i≠b:=by
  intro e;subst e;rw[h] at d;cases d;exact j g
 simp[Gh.retag,this,d]
def AKB{d s:Nat}{k:PK}{i:List CW}(h:Cb pur call { dst:=some d,k:=.p k,args:=i,ex:=[s] } A σ=some (A',T)):
  ∃vs b,Cc A i=some vs/\AQ k vs=some b/\T=σ/\∀p q,b=[p,q]->A'=(A.set d p).set s q:=by
 unfold Cb at h;dsimp only at h
 split at h
 ·rename_i vs f;simp only[sem] at h
  split at h
  ·rename_i b g j;obtain⟨l,c,e⟩:=Ac.1 j;cases e;refine⟨vs,b,f,c,?_,?_⟩
   ·split at h
    ·cases h;rfl
    ·split at h<;>cases h;rfl
   ·rintro p q rfl
    simp[AOp.wr,Dw] at h;rw[<-h.1]
  ·cases h
 ·cases h
def Inv.vg{G':Gh}{g:World}(hi:Inv cx G a w A σ){d s:Nat}(F:d<cx.nt/\(cx.kd d).val=true)(I:s<cx.nt/\(cx.kd s).val=true)
  (Q:Ext (λJ=>J=.slot s none\/J=.slot d none) G G' w g) (R:Base cx G' g) (l:G'.bl=G.bl) {v:Value} {p q:PV} (E:p.free=true) (u:q.free=true)
  (K:BF G'.I G'.bl g v p) (O:d≠s->EB G' g (.slot d none) v p) (N:BF G'.I G'.bl g (at' (a.put (some d) v) s) q) (z:∀B c,EB G' g B c q) :
  Inv cx G' (a.put (some d) v) g ((A.set d (some p)).set s (some q)) σ:=by
 have b:∀m,(cx.kd m).val=false->m≠d/\m≠s:=λm i=>by
  refine⟨λe=>?_,λe=>?_⟩
  ·rw[e,F.2] at i;cases i
  ·rw[e,I.2] at i;cases i
 refine hi.step _ (some d) v Q R (by simp) ?_ ?_ (by rw[l];exact hi.len) (by rw[l];exact hi.abl)
 ·intro t r f;rw[Dp] at f
  split at f
  ·rename_i k;cases f;rw[k.1,Ch I.2 u];exact .inr ⟨N,z _ _⟩
  ·rename_i y;have o:t≠s:=λe=>y ⟨e,by simp;have:=hi.room;omega⟩
   rw[Dp] at f
   split at f
   ·rename_i k;cases f;rw[k.1,Ch F.2 E,Gc _ _ _ (by rw[hi.size];exact F.1)]
    exact .inr ⟨K,O (by rw[<-k.1];exact o)⟩
   ·rename_i D;have n:t≠d:=λe=>D ⟨e,by have:=hi.room;omega⟩
    refine .inl ⟨f,λe=>n (Option.some.inj e).symm,λj h=>?_,λM off e C=>?_,λm i=>?_⟩
    ·rcases h with h | h<;>cases h
     ·exact o rfl
     ·exact n rfl
    ·have:=b M (by rw[C];rfl)
     exact λx=>this.1 (Option.some.inj x).symm
    ·obtain⟨H,L⟩:=cx.ents t m i;have:=b m (by rw[L];rfl)
     refine⟨λx=>this.1 (Option.some.inj x).symm,?_⟩
     rintro(h | h)<;>cases h
     ·exact this.2 rfl
     ·exact this.1 rfl
 ·intro id cs k;exact .inl ⟨k,λj h=>by rcases h with h | h<;>cases h⟩
def FU(c:∀t,cx.kd t=fi.kind t)(b:cx.nt=fi.nt){t:Nat}(h:Dn fi t=true):t<cx.nt/\(cx.kd t).val=true:=
 Eg c b (d:=some t) h t rfl
def MU(hi:Inv cx G a w A σ){t:Nat}(f:(cx.kd t).val=true){p:PV}(b:Cc A [.slot t]=some [p])(c:p.free=true):
  BF G.I G.bl w (at' a t) p/\EB G w (.slot t none) (at' a t) p:=by
 simp only[Cc] at b
 split at b
 ·rename_i v vs e d;cases d;cases b;exact(Ch f c).1 (hi.slot t _ e)
 ·cases b
def eZ(j:Base cx G w){s d:Nat}{v:Value}{p:PV}(m:EB G w (.slot s none) v p):
  ∃G',G'.I=G.I/\G'.bl=G.bl/\Ext (λi=>i=.slot s none\/i=.slot d none) G G' w w/\Base cx G' w/\EB G' w (.slot d none) v p:=by
 by_cases h:∃f es,p=.slice true f es
 ·obtain⟨f,es,rfl⟩:=h;obtain⟨b,off,cap,cs,c,rfl,g,q,l,k,n,o,r⟩:=m;refine⟨G.retag b (.slot d none),rfl,rfl,Xv g (.inl rfl),UJ j g,?_⟩
  exact⟨b,off,cap,cs,c,rfl,by simp[Gh.retag],q,l,k,n,o,r⟩
 ·exact⟨G,rfl,rfl,Ext.refl _ _ _,j,LV (λf es e=>h ⟨f,es,e⟩)⟩
def lC(hi:Inv cx G a w A σ)(n:∀t,cx.kd t=fi.kind t)(m:cx.nt=fi.nt){o:Oper}{s d:Nat}(r:o.op=.move (.tmp s)\/o.op=.assign (.tmp s))(x:o.dst=some d)
  {D:List CW} (L:Ar fi [.tmp s]=some D) (N:Dn fi d=true) (K:Dn fi s=true)
  (q:Cb pur call { dst:=some d,k:=.p .mvo,args:=D,ex:=[s] } A σ=some (A',T)):Gives P cx o a w A' T:=by
 obtain⟨vs,O,F,b,rfl,I⟩:=AKB q;obtain⟨y,zs,rfl,g,M⟩:=AX L;cases M;obtain⟨p,Q,rfl,H,J⟩:=Av F;cases J;simp only[AQ] at b
 split at b
 ·rename_i z;cases b;rw[I _ _ rfl];have j:=FU n m K;have k:=FU n m N
  have C:y=.slot s:=by
   simp only[Hg] at g
   split at g<;>first | (split at g<;>first | (cases g;rfl) | cases g) | cases g
  subst C;obtain⟨c,v⟩:=MU hi j.2 H z;obtain⟨G',E,u,i,f,l⟩:=eZ (d:=d) hi.base v
  have B:at' (a.put (some d) (at' a s)) s=at' a s:=by
   by_cases h:d=s
   ·subst h;exact Gc _ _ _ (by rw[hi.size];exact k.1)
   ·exact GI _ _ _ _ (λe=>h (Option.some.inj e))
  refine .inl ⟨at' a s,w,?_,G',?_⟩
  ·rcases r with r | r<;>simp only[execOp,r]<;>rfl
  ·rw[x];exact hi.vg k j i f u z (by rw[Di];exact z) (by rw[E,u];exact c) (λ_=>l) (by rw[B,E,u];exact c.Ag) (λ_ _=>Ct p)
 ·cases b
end
section
variable{P:Program}{pur:FuncId->Bool}{call:Caller}{fi:FI}{cx:Cx}{G:Gh}{a:Act}{w:World}{A A':Frm}{σ W:Sto}
def R4{I:Imm}{c:Value}{p:PV}(h:Rep I w c p)(b:p.one=true):c.oneCell'=true:=by
 cases h<;>first | rfl | simp[PV.one] at b
def Jm(I:Imm)(w:World)(size:Nat)(cs:List Value)(es:List PV):Prop:=
 cs.length=es.length * size/\(∀(i:Nat) (e:PV),es[i]?=some e->e.cells.length=size)/\
 ∀(i:Nat) (e:PV) (j:Nat) (p:PV),es[i]?=some e->e.cells[j]?=some p->∃c,cs[i * size+j]?=some c/\Rep I w c p
def Jm.mono{I I':Imm}{w d:World}{size:Nat}{cs:List Value}{es:List PV}(h:Jm I w size cs es)(m:∀b x,I b x->I' b x)(g:Same I w d):Jm I' d size cs es:=
 ⟨h.1,h.2.1,λi e j p k l=>let ⟨c,f,n⟩:=h.2.2 i e j p k l;⟨c,f,n.mono m g⟩⟩
def Jm.nil(I:Imm)(w:World)(size:Nat):Jm I w size [] []:=⟨by simp,λi e h=>by simp at h,λi e j p h=>by simp at h⟩
def Jm.append{I:Imm}{size:Nat}{cs l:List Value}{es fs:List PV}(h:Jm I w size cs es)(k:Jm I w size l fs):Jm I w size (cs++l) (es++fs):=by
 refine⟨by simp[h.1,k.1,Cf],λi e b=>?_,λi e j p b g=>?_⟩
 ·by_cases hi:i<es.length
  ·rw[AR hi] at b;exact h.2.1 i e b
  ·rw[Aq am] at b;exact k.2.1 _ e b
 ·by_cases hi:i<es.length
  ·rw[AR hi] at b;obtain⟨c,d,f⟩:=h.2.2 i e j p b g;refine⟨c,?_,f⟩
   rw[AR (Ad.1 d).1];exact d
  ·rw[Aq am] at b
   obtain⟨c,d,f⟩:=k.2.2 _ e j p b g;refine⟨c,?_,f⟩
   have m:es.length * size<=i * size:=BJ _ am
   rw[Aq (by rw[h.1];omega),h.1]
   rw[Nat.sub_mul] at d;rw[show i * size+j - es.length * size=i * size - es.length * size+j from am]
   exact d
def Mm{I:Imm}{d:Addr}{size:Nat}{es:List PV}{cv:Nat->Nat->Value}(m:0<size)(g:es≠[]->d.spot=none)
  (l:∀(i:Nat) (e:PV),es[i]?=some e->e.cells.length=size)
  (z:∀(i:Nat) (e:PV) (j:Nat) (p:PV),es[i]?=some e->e.cells[j]?=some p->w.cell? ⟨d.block,d.off+i * size+j,none⟩=some (cv i j))
  (B:∀(i:Nat) (e:PV) (j:Nat) (p:PV),es[i]?=some e->e.cells[j]?=some p->Rep I w (cv i j) p) :
  ∃cs:List Value,Jm I w size cs es/\(∀(j:Nat) (v:Value),cs[j]?=some v->w.cell? (d.add j)=some v)/\∀(i:Nat) (j:Nat),i<es.length->j<size->cs[i * size+j]?=some (cv i j):=by
 have c:∀k,k<es.length * size->((List.range (es.length * size)).map λk=>cv (k / size) (k % size))[k]?=some (cv (k / size) (k % size)):=by
  intro k o;rw[Al,FO o];rfl
 have q:∀i j,i<es.length->j<size->i * size+j<es.length * size:=by
  intro i j hi b;have:(i+1) * size<=es.length * size:=BJ _ am
  rw[BU] at this;omega
 have f:∀i j,j<size->(i * size+j) / size=i/\(i * size+j) % size=j:=by
  intro i j b;constructor
  ·rw[Eh,Nat.mul_add_div m,Nat.div_eq_of_lt b];omega
  ·rw[Eh,Nat.mul_add_mod,Nat.mod_eq_of_lt b]
 refine⟨(List.range (es.length * size)).map λk=>cv (k / size) (k % size),⟨by simp,l,λi e j p n t=>?_⟩,λk v o=>?_,λi j hi b=>?_⟩
 ·have hi:=(Ad.1 n).1;have b:j<size:=by have:=(Ad.1 t).1;rw[l i e n] at this;exact this
  refine⟨cv i j,?_,B i e j p n t⟩
  rw[c _ (q i j hi b),(f i j b).1,(f i j b).2]
 ·have s:k<es.length * size:=by have:=(Ad.1 o).1;simpa using this
  rw[c k s] at o;cases o;have hi:k / size<es.length:=(Fe m).2 s;have b:k % size<size:=Nat.mod_lt _ m;have x:es≠[]:=by intro h;subst h;simp at hi
  have n:=Af hi;have u:k % size<(es[k / size]).cells.length:=by rw[l _ _ n];exact b
  have t:=Af u;have:=z _ _ _ _ n t;have C:k / size * size+k % size=k:=by rw[Eh];exact Nat.div_add_mod k size
  rw[show d.off+k / size * size+k % size=d.off+k from am] at this
  have y:d.add k=⟨d.block,d.off+k,none⟩:=by
   have r:=g x;cases d;dsimp only at r;subst r;exact FM ..
  rw[y];exact this
 ·rw[c _ (q i j hi b),(f i j b).1,(f i j b).2]
def SF{size:Nat}(t:0<size){xT:TypeId}(n:(∃Q,P.underlying xT=some (.slice Q))\/P.underlying xT=some .string){v:Value}{x:PV}{bl:Bl}(E:BF G.I bl w v x){xs:List PV}(f:RI size x=some xs)
  (g:xs.all PV.ones=true):∃r,Src P size xT v xs.length r w/\Jm G.I w size r xs:=by
 rw[Au] at g;cases x with
 |slice O d es=>
  simp only[RI] at f
  split at f
  ·rename_i z;subst z;cases f;obtain⟨y,len,cap,cv,rfl,rfl,U,R,K,V,N,L⟩:=E.FY;obtain⟨cs,c,m,F⟩:=Mm (I:=G.I) t R K N L;refine⟨cs,⟨n,λ_=>rfl,run_firstCells_some w d _ y _ _ cs c.1 m,run_firstCells_some w.drew d _ y _ _ cs c.1 m,c.1,λu H=>?_⟩,c⟩
   obtain⟨k,J⟩:=BP.1 H;have I:k<xs.length * d:=by have:=(Ad.1 J).1;rw[c.1] at this;exact this
   have hi:k / d<xs.length:=(Fe t).2 I;have M:k % d<d:=Nat.mod_lt _ t;have q:=Af hi;have D:k % d<(xs[k / d]).cells.length:=by rw[K _ _ q];exact M
   have C:=Af D;have B:=L _ _ _ _ q C;have:=F (k / d) (k % d) hi M;rw[show k / d * d+k % d=k from by rw[Eh];exact Nat.div_add_mod k d,J] at this
   cases this;refine R4 B ?_
   exact Au.1 (g _ (Cg hi)) _ (Cg D)
  ·cases f
 |nils=>
  simp only[RI] at f;cases f;have:=E.F6;subst this;refine⟨[],⟨n,λ_=>rfl,run_firstCells_none w size 0 0 0,run_firstCells_none w.drew size 0 0 0,by simp,λ_ h=>by cases h⟩,Jm.nil ..⟩
 |empt=>
  simp only[RI] at f;cases f;obtain⟨y,rfl⟩:=E.JS;exact⟨[],⟨n,λ_=>rfl,run_firstCells_some w size 0 y 0 0 [] (by simp) (λj u h=>by simp at h),run_firstCells_some w.drew size 0 y 0 0 [] (by simp) (λj u h=>by simp at h),by simp,λ_ h=>by cases h⟩,Jm.nil ..⟩
 |str l=>
  simp only[RI] at f
  split at f
  ·rename_i S;subst S;cases f;obtain⟨s,rfl,rfl⟩:=E.EC
   refine⟨byteCells s,⟨n,λ_=>by rw[Ap,<-Lib.size_eq];rfl,by rw[Ap,<-Lib.size_eq];exact firstCells_string s w,by rw[Ap,<-Lib.size_eq];exact firstCells_string s w.drew,
    by rw[byteCells_length,Gg,Ap];exact Lib.size_eq s,λu H=>by obtain⟨_,_,rfl⟩:=E8.1 H;rfl⟩,?_⟩
   refine⟨by rw[byteCells_length,Gg,Ap];exact Lib.size_eq s,λi e q=>?_,λi e j p q C=>?_⟩
   ·rw[Al] at q;obtain⟨b,_,rfl⟩:=Ac.1 q;rfl
   ·rw[Al] at q;obtain⟨b,T,rfl⟩:=Ac.1 q;cases j with
    |zero=>
     simp[PV.cells] at C;subst C;exact⟨.int .u8 b.toNat,by rw[byteCells,Gg,FH,Al,T];rfl,.int _ _⟩
    |succ j=>simp[PV.cells] at C
  ·cases f
 |_=>simp[RI] at f
end
section
variable{P:Program}{pur:FuncId->Bool}{call:Caller}{fi:FI}{cx:Cx}{G:Gh}{a:Act}{w:World}{A A':Frm}{σ σ':Sto}
def IJ(b:Nat)(t:TypeId)(g:Nat×Nat):∀(vs:List Value) (o:Nat) (w:World) (f:Array Value),w.heap[b]?=some (.cells f t g)->
  ∃d:Array Value,d.size=f.size/\(w.setCells b o vs).heap[b]?=some (.cells d t g)
 |[],_,_,f,h=>⟨_,rfl,h⟩
 |v::r,o,w,f,h=>by
  have i:(w.setCell ⟨b,o,none⟩ v).heap[b]?=some (.cells (f.setIfInBounds o v) t g):=by
   simp only[World.setCell,Dh,if_true,h];rfl
  obtain⟨d,e,j⟩:=IJ b t _ r _ _ _ i;exact⟨_,by grind,j⟩
def Ez(b:Nat):∀(vs:List Value) (o:Nat) (w:World) (k:Nat),k≠b->(w.setCells b o vs).heap[k]?=w.heap[k]?
 |[],_,_,_,_=>rfl
 |v::r,o,w,k,h=>by
  rw[World.setCells,Ez b r _ _ k h]
  simp  [World.setCell,Dh]
  grind
def size_setCells(b:Nat):∀(vs:List Value) (o:Nat) (w:World),(w.setCells b o vs).heap.size=w.heap.size
 |[],_,_=>rfl
 |v::r,o,w=>by rw[World.setCells,size_setCells b r];simp_all
def Ll(b:Nat):∀(vs:List Value) (o:Nat) (w:World),(w.setCells b o vs).tape=w.tape
 |[],_,_=>rfl
 |v::r,o,w=>by rw[World.setCells,Ll b r];rfl
def OE{I:Imm}{m:World}{b off size n cap:Nat}{h:Bool}{cs:List Value}{es:List PV}(o:n=es.length)(f:n<=cap)(d:Jm I m size cs es)
  (q:∀k,k<cs.length->I b (some (off+k))) (r:∀k (v:Value),cs[k]?=some v->m.cell? ⟨b,off+k,none⟩=some v):Rep I m (.slice (some ⟨b,off,none⟩) n cap) (.slice h size es):=by
 refine .slice (λi j=>cs.getD (i * size+j) undef) o f (by simp) d.2.1 (λi e j p g l=>?_) (λi e j p g l=>?_) (λi e j p g l=>?_)
 all_goals let ⟨c,_,_⟩:=d.2.2 i e j p g l
 ·grind
 ·grind
 grind
def KJ{need old bytes:Nat}(h:old<need)(c:need<=Bo)(b:bytes<=4096):Builtin.nextslicecap need old * bytes<=281474976710656:=by
 have d:=nextslicecap_le h;unfold Bo at c;have  := Nat.mul_le_mul am b
 omega
def grownCap_ge(w:World)(need old:Nat)(e:TypeId):need<=grownCap w need old e:=by
 simp only[grownCap,Question.cut];omega
def lI(hi:Inv cx G a w A σ)(hkd:∀t,cx.kd t=fi.kind t)(hnt:cx.nt=fi.nt){o:Oper}{c:Call}(ho:o.op=.call c)(hb:c.callee=.builtin .append)
  {sT xT e:TypeId} {u d:Nat} {y:Operand} (hargs:c.args=#[.tmp u,y]) (htys:c.argTypes=#[sT,xT]) (hod:o.dst=some d)
  (hsT:P.underlying sT=some (.slice e)) (hxT:(∃e',P.underlying xT=some (.slice e'))\/P.underlying xT=some .string) {i:TypeInfo} (hit:P.info? e=some i)
  (N:0<i.size) (hby:i.bytes<=4096) (hz:(i.zero.map (·.cells.size))=some i.size)
  {az:List CW} (hc:Ar fi [.tmp u,y]=some az) (hd:Dn fi d=true) (hu:Dn fi u=true) (hne:d≠u)
  (hrun:Cb pur call { dst:=some d,k:=.p (.app i.size),args:=az,ex:=[u] } A σ=some (A',σ')):Gives P cx o a w A' σ':=by
 obtain⟨vs,rs,he,D,rfl,hA⟩:=AKB hrun;obtain⟨y1,zs,rfl,V,hz1⟩:=AX hc;obtain⟨y2,zs,rfl,hy2,hz2⟩:=AX hz1;cases hz2;obtain⟨s,qs,rfl,hs,hq⟩:=Av he;obtain⟨x,qs,rfl,hx,hq⟩:=Av hq;cases hq;have huv:=FU hkd hnt hu;have hdv:=FU hkd hnt hd
 have hyy:y1=.slot u:=by
  simp only[Hg] at V
  split at V<;>first | (split at V<;>first | (cases V;rfl) | cases V) | cases V
 subst hyy;obtain⟨z,hz',hzs⟩:=Ac.1 hz;simp only[AQ,AzV] at D
 split at D
 case h_2=>cases D
 rename_i es xs H hxs;have F:s.free=true:=by cases s<;>first | rfl | simp[RJ] at H
 have hxfree:x.free=true:=by cases x<;>first | rfl | simp[RI] at hxs
 obtain⟨n,T⟩:=MU hi huv.2 hs F;have Y:=Bq hi hkd hy2 hx hxfree;obtain⟨consts,O⟩:=F5 (P:=P) (w:=w) (a:=a) ho hb;rw[hargs,htys] at O;have hat:∀v,d≠u->at' (a.put (some d) v) u=at' a u:=λv h=>GI _ _ _ _ (λe=>h (Option.some.inj e))
 have hev:(#[Operand.tmp u,y].map a.eval)=#[at' a u,a.eval y]:=by simp[Act.eval,at']
 rw[hev] at O
 have Z:∀{v:Value} {w':World},(Builtin.append_ #[sT,xT] o.type #[at' a u,a.eval y]).run P w=.ok v w'->(execOp a.eval o).run P w=.ok (.value v) w':=by
  intro v w' h;rw[O];simp only[builtin,Sem.run_bind,h,Result.andThen_ok,Sem.run_pure]
 split at D
 ·
  rename_i hemp;have hxe:xs=[]:=DF.1 hemp;subst hxe;cases D;rw[hA _ _ rfl];obtain⟨g,E,M⟩:=SF (P:=P) (G:=G) N hxT Y hxs (by rfl)
  have hn0:g=[]:=Ak.1 (by rw[E.newsLen];simp)
  subst hn0
  have hrun0:(Builtin.append_ #[sT,xT] o.type #[at' a u,a.eval y]).run P w=.ok (at' a u) w:=by
   cases s with
   |slice own sz es'=>
    cases own with
    |false=>simp[RJ] at H
    |true=>
     obtain⟨b,off,cap,cs,X,ev,_,_,_,_,_,_,hle⟩:=T;rw[ev];exact run_append_room_src w sT xT o.type e i hsT hit b off _ cap _ _ [] E (by simpa using hle) (by simp) (by simp)
   |nils=>
    have ev:=n.F6;rw[ev];have hc0:=E.cells;have hl0:=E.len w;simp only[Ba] at hc0 hl0;rcases hxT with⟨e',L⟩ | L<;>simp[Builtin.append_,run_underlying hsT,run_underlying L,sizeOf,typeInfo,hit,hl0,hc0]
   |_=>simp[RJ] at H
  obtain⟨G',e1,e2,C,R,how'⟩:=eZ (d:=d) hi.base T
  have hatu:at' (a.put (some d) (at' a u)) u=at' a u:=by
   by_cases h:d=u
   ·subst h;exact Gc _ _ _ (by rw[hi.size];exact hdv.1)
   ·exact hat _ h
  refine .inl ⟨at' a u,w,Z hrun0,G',?_⟩
  rw[hod];exact hi.vg hdv huv C R e2 F (by rw[Di];exact F) (by rw[e1,e2];exact n) (λ_=>how') (by rw[hatu,e1,e2];exact n.Ag) (λ_ _=>Ct s)
 ·rename_i hemp
  split at D
  case isFalse=>cases D
  rename_i hcond;obtain⟨hmax,hones⟩:=hcond;cases D;rw[hA _ _ rfl];obtain⟨g,E,M⟩:=SF (P:=P) (G:=G) N hxT Y hxs hones
  have hxlen:0<xs.length:=by
   cases xs with
   |nil=>simp at hemp
   |cons _ _=>simp
  have grow:∀(base:Option Addr) (m:Nat) (l:List Value),at' a u=.slice base es.length m->m<es.length+xs.length->Jm G.I w i.size l es->
    (Builtin.firstCells i.size es.length (.slice base es.length m)).run P w.drew=.ok l.toArray w.drew->
    Gives P cx o a w ((A.set d (some (.slice true i.size (es++xs)))).set u (some s.Ag)) σ':=by
   intro base m l ev hlt holds hfc;have hr:=run_append_grow_src w sT xT o.type e i z hsT hit hz' base es.length m l hfc (a.eval y) xs.length g E hlt (by unfold Bo at hmax;omega) (KJ hlt hmax hby)
   rw[<-ev] at hr
   let J:Option Nat->Prop:=λx=>∃o,x=some o/\o<(es.length+xs.length) * i.size
   let B:Array Value:=(l++g).toArray++Builtin.zeroCells z.cells (grownCap w (es.length+xs.length) m e - (es.length+xs.length))
   have q:=(KQ (G:=G) (w:=w) (λtg=>tg=.slot u none\/tg=.slot d none)).trans (Gb _ (GV hi.base) (.cells B e) J (some (.slot d none)))
   have hbase0:=FD (GV hi.base) (.cells B e) J (some (.slot d none));have S:=(holds.append M).mono q.I q.same;have I:(l++g).length=(es.length+xs.length) * i.size:=by rw[Ae,holds.1,M.1,Cf]
   refine .inl ⟨_,_,Z hr,G.MM w.heap.size J (some (.slot d none)),?_⟩
   rw[hod]
   refine hi.vg hdv huv q hbase0 rfl rfl (by rw[Di];exact F) (.one (.inl (OE (by simp) (grownCap_ge ..) S (λk L=>.inr ⟨rfl,_,rfl,by rw[BB];rw[I] at L;exact L⟩) (λk v L=>?_)))) (λ_=>?_)
    (by rw[hat _ hne];exact(n.mono q.I q.same q.bl).Ag) (λ_ _=>Ct s)
   ·rw[BB];have:=PQ w.drew B e (0,0) k;refine this.trans ?_
    have hlt':=(Ad.1 L).1;simp only[B];rw[Ej (by simpa using hlt')]
    simpa using L
   ·refine⟨w.heap.size,0,grownCap w (es.length+xs.length) m e,B,e,by rw[Ae],by simp[Gh.MM],?_,?_,heap_alloc_new' _ _,?_,N,by rw[Ae];exact grownCap_ge ..⟩
    ·rintro(h | ⟨_,o,h,_⟩)
     ·have:=hi.base.lt _ _ h;omega
     ·cases h
    ·intro o' ho' h;rcases h with h | ⟨_,o'',h,hlt⟩
     ·have:=hi.base.lt _ _ h;omega
     ·cases h;rw[Ae] at ho';omega
    ·have hge:=grownCap_ge w (es.length+xs.length) m e;simp only[B,Fp,Cq,I,Builtin.zeroCells,Array.size_map,FL,hzs];rw[<-Cf];have:es.length+xs.length+(grownCap w (es.length+xs.length) m e - (es.length+xs.length))=grownCap w (es.length+xs.length) m e:=am
     rw[this];omega
  cases s with
  |slice own sz es'=>
   cases own with
   |false=>simp[RJ] at H
   |true=>
    simp only[RJ] at H
    split at H
    case isFalse=>cases H
    rename_i hsz';subst hsz';cases H;obtain⟨b,off,cap,cs,X,ev,hω,hIn,hIt,Q,hcapsz,_,hle⟩:=T;obtain⟨ad,len,cap',cv,ev',e1,e2,e3,e4,e5,e6,e7⟩:=n.FY;rw[ev] at ev';cases ev';by_cases U:es.length+xs.length<=cap
    ·
     have hnlen:g.length=xs.length * i.size:=E.newsLen;have hmul:(es.length+xs.length) * i.size<=cap * i.size:=BJ _ U;rw[Cf] at hmul
     have hin:∀j,j<g.length->(w.cell? ⟨b,off+es.length * i.size+j,none⟩).isSome=true:=by
      intro j hj;simp only[World.cell?,Q];have:off+es.length * i.size+j<cs.size:=am
      simp[this]
     have hr:=run_append_room_src w sT xT o.type e i hsT hit b off es.length cap (a.eval y) xs.length g E U hin (λj hj=>by simp[World.frozen?,Q])
     rw[<-ev] at hr;obtain⟨l,f,r,_⟩:=Mm (I:=G.I) N (λ_=>rfl) e4 e6 e7
     let w':=w.setCells b (off+es.length * i.size) g
     let G':Gh:=⟨λK x=>G.I K x\/(K=b/\∃o,x=some o/\off+es.length * i.size<=o/\o<off+(es.length+xs.length) * i.size),λK=>if K=b then some (.slot d none) else G.ω K,G.bl⟩
     have hsame:Same G.I w w':=by
      refine⟨λK o' h=>?_,λK h=>?_⟩
      ·refine World.cell?_setCells_out b g _ w _ (λhb' _=>.inl ?_)
       dsimp only at hb' ⊢;subst hb';rcases Be o' (off+es.length * i.size) with h' | h'
       ·exact h'
       ·exact absurd h (hIt o' h')
      ·refine Ez b _ _ _ _ (λe=>?_)
       subst e;exact hIn h
     have C:Ext (λtg=>tg=.slot u none\/tg=.slot d none) G G' w w':=by
      refine⟨λ_ _ h=>.inl h,hsame,Bl.le_refl _,λ_ _ _ _=>rfl,λK tg h hX=>?_⟩
      have hbb:K≠b:=by
       intro e;subst e;rw[hω] at h;cases h;exact hX (.inl rfl)
      refine⟨by simp[G',hbb,h],Ez b _ _ _ _ hbb,λx hx=>?_⟩
      rcases hx with hx | ⟨e,_⟩
      ·exact hx
      ·exact absurd e hbb
     have hnK:=(hi.base.own b _ hω).2
     have R:Base cx G' w':=by
      have p:=hi.base;refine⟨λK hK=>?_,p.same.trans hsame p.sub,λK x h=>.inl (p.sub K x h),λK x h=>?_,λK x h=>?_,λK tg h=>?_,p.Klt,by rw[size_setCells];exact p.grow,p.bl,?_,by rw[Ll];exact p.tape,?_⟩
      ·rw[Ez b _ _ _ _ (λe=>hnK (e▸hK))];exact p.keep K hK
      ·rcases h with h | ⟨rfl,_⟩
       ·exact p.new K x h
       ·exact .inr hnK
      ·rw[size_setCells];rcases h with h | ⟨rfl,_⟩
       ·exact p.lt K x h
       ·exact(p.own _ _ hω).1
      ·rw[size_setCells];simp only[G'] at h
       split at h
       ·rename_i e;subst e;exact p.own _ _ hω
       ·exact p.own _ _ h
      ·rw[World.os_setCells];exact p.os
      ·rw[World.output_setCells];exact p.output
     have S:Jm G'.I w' i.size (l++g) (es++xs):=(f.append M).mono C.I C.same;have I:(l++g).length=(es.length+xs.length) * i.size:=by rw[Ae,f.1,M.1,Cf]
     obtain⟨cur',hcur1,hcur2⟩:=IJ b X (0,0) g (off+es.length * i.size) w cs Q;refine .inl ⟨_,w',Z hr,G',?_⟩
     rw[hod]
     refine hi.vg hdv huv C R rfl rfl rfl (.one (.inl (OE (by simp) (by simpa using U) S (λk L=>?_) (λk v L=>?_)))) (λ_=>?_)
      (by rw[hat _ hne];exact(n.mono C.I C.same C.bl).Ag) (λ_ _=>Ct _)
     ·rw[I] at L;by_cases W:k<es.length * i.size
      ·refine .inl ?_
       have hi':k / i.size<es.length:=(Fe N).2 W;have hj':k % i.size<i.size:=Nat.mod_lt _ N;have he':=Af hi';have hcl:k % i.size<(es[k / i.size]).cells.length:=by rw[e4 _ _ he'];exact hj'
       have:=e5 _ _ _ _ he' (Af hcl);dsimp only at this;rw[show off+k / i.size * i.size+k % i.size=off+k from by have:=Nat.div_add_mod k i.size;rw[Eh] at this;omega] at this
       exact this
      ·exact .inr ⟨rfl,_,rfl,am,am⟩
     ·have hkl:=(Ad.1 L).1;by_cases W:k<l.length
      ·rw[AR W] at L;have h0:=r k v L;rw[FM] at h0;have:w'.cell? ⟨b,off+k,none⟩=w.cell? ⟨b,off+k,none⟩:=World.cell?_setCells_out b g _ w _ (λ_ _=>.inl (by dsimp only;rw[f.1] at W;omega))
       rw[this];exact h0
      ·rw[Aq am,f.1] at L
       have hkn:k - es.length * i.size<g.length:=(Ad.1 L).1;have h0:=World.cell?_setCells_in b g (off+es.length * i.size) w hin _ hkn
       rw[f.1] at W;rw[show off+es.length * i.size+(k - es.length * i.size)=off+k from am] at h0
       rw[h0,<-Af hkn];exact L
     ·refine⟨b,off,cap,cur',X,by rw[Ae],by simp[G'],?_,?_,hcur2,am,N,by rw[Ae];exact U⟩
      ·rintro(h | ⟨_,o',h,_⟩)
       ·exact hIn h
       ·cases h
      ·intro o' ho' h;rw[Ae,Cf] at ho';rcases h with h | ⟨_,o'',h,h1,h2⟩
       ·exact hIt o' am h
       ·cases h;rw[Cf] at h2;omega
    ·obtain⟨l,f,r,_⟩:=Mm (I:=G.I) N (λ_=>rfl) e4 e6 e7
     exact grow _ cap l ev am f (run_firstCells_some w.drew i.size _ _ _ _ l f.1 r)
  |nils=>
   simp only[RJ] at H;cases H;exact grow none 0 [] n.F6 (by simpa using hxlen) (Jm.nil ..) (run_firstCells_none w.drew i.size 0 0 0)
  |_=>simp[RJ] at H
end
section
variable{P:Program}{pur:FuncId->Bool}{call:Caller}{fi:FI}{cx:Cx}{G:Gh}{a:Act}{w:World}{A A':Frm}{σ Z:Sto}
def DV{t:Nat}{v:PV}(c:cx.kd t=.box):Ei cx G a w t v↔∃b,at' a t=.pointer (some ⟨b,0,none⟩)/\Gr G w b (.slot t) v.cells:=by
 unfold Ei;rw[c]
def M8(A:Frm):∀(ts:List Nat) (t:Nat) (p:PV),Frm.get (Dw A ts (ts.map λ_=>none)) t=some p->t∉ts/\A.get t=some p:=by
 intro ts
 induction ts generalizing A with
 |nil=>intro t p h;exact⟨by simp,h⟩
 |cons s ts f=>
  intro t p h;simp only[Bu,Dw] at h;obtain⟨d,b⟩:=f (A.set s none) t p h;rw[Dp] at b
  split at b
  ·cases b
  ·rename_i e;refine⟨?_,b⟩
   intro c;rcases AU.1 c with rfl | c
   ·by_cases g:t<A.length
    ·exact e ⟨rfl,g⟩
    ·unfold Frm.get at b;rw[Ey am] at b
     cases b
   ·exact d c
def Em(A:Frm):∀(ts:List Nat) (vs:List (Option PV)),(Dw A ts vs).length=A.length
 |[],vs=>by cases vs<;>rfl
 |t::ts,[]=>rfl
 |t::ts,v::vs=>by rw[Dw,Em (A.set t v) ts vs];simp
def kF{t d:Nat}(h:fi.alias t=some d):t∈fi.ptrs d:=by
 unfold FI.alias at h;obtain⟨x,c,rfl⟩:=Ac.1 h;have b:=List.find?_some c
 have e:=List.mem_of_find?_eq_some c
 simp only[beq_iff_eq] at b;subst b;exact E8.2 ⟨x,Dj.2 ⟨e,by simp⟩,rfl⟩
def Gw{p q:PV}{j:Nat}(h:p.Ag.cells[j]?=some q):∀(G:Gh) (w:World) (b:Tag) (c:Value),EB G w b c q:=by
 intro G w b c;cases p with
 |agg cs=>
  simp only[PV.Ag,PV.cells,Al] at h;obtain⟨r,_,rfl⟩:=Ac.1 h;exact U6 r
 |aggr cs=>
  simp only[PV.Ag,PV.cells,Al] at h;obtain⟨r,_,rfl⟩:=Ac.1 h;exact U6 r
 |slice d e es=>
  cases j with
  |zero=>simp[PV.Ag,PV.cells] at h;subst h;trivial
  |succ j=>simp[PV.Ag,PV.cells] at h
 |_=>
  cases j with
  |zero=>simp[PV.Ag,PV.cells] at h;subst h;trivial
  |succ j=>simp[PV.Ag,PV.cells] at h
def Tc{I:Imm}{v:Value}{p:PV}(h:Rep I w v p):p.free=true:=by cases h<;>rfl
def BF.free{I:Imm}{bl:Bl}{v:Value}{p:PV}(h:BF I bl w v p):p.free=true:=by
 cases h with
 |one h=>
  rcases h with h | h
  ·exact Tc h
  ·cases h<;>rfl
 |func _ _ _ _=>rfl
 |tuple _ _=>rfl
 |aggr _ _=>rfl
def Mf(I:Imm)(bl:Bl)(w:World)(cs:List Value)(ps:List PV):Prop:=cs.length=ps.length/\∀(i:Nat) (p:PV),ps[i]?=some p->∃c,cs[i]?=some c/\BF I bl w c p
def Mf.AU1{I:Imm}{bl:Bl}{cs:List Value}{ps:List PV}(h:MP I w cs ps):Mf I bl w cs ps:=
 ⟨h.1,λi p e=>by obtain⟨c,b,d⟩:=h.2 i p e;exact⟨c,b,.one (.inl d)⟩⟩
def LW{p:PV}(h:p.okc=true):p.free=true:=by
 cases p<;>first | rfl | simp[PV.okc,PV.flat,PV.Fz,PV.AzF] at h
def pJ(c:PV):((c.Ck.flat||c.Ck.Fz)&&c.Ck.one)=((c.flat||c.Fz)&&c.one):=by cases c<;>rfl
def UE:∀cs:List PV,(cs.map PV.Ck).all (λc=>(c.flat||c.Fz)&&c.one)=cs.all (λc=>(c.flat||c.Fz)&&c.one)
 |[]=>rfl
 |c::cs=>by rw[Bu,Dv,Dv,pJ,UE cs]
def Jt(p:PV):p.Ag.okc=p.okc:=by
 cases p with
 |aggr cs=>exact UE cs
 |_=>rfl
def Mf.AxT{I:Imm}{bl:Bl}{v:Value}{ps:List PV}(h:BF I bl w v (.aggr ps)):Mf I bl w v.cells.toList ps:=by
 obtain⟨cs,rfl,c,e⟩:=h.UY;refine⟨by simpa [Value.cells] using c,λi p d=>?_⟩
 have b:i<cs.size:=by rw[c];exact(Ad.1 d).1
 have:=e i p d;refine⟨cs[i],by simp[Value.cells,b],?_⟩
 rw[Ao,Bp b] at this;exact .one this
def oH{I:Imm}{bl:Bl}{v:Value}{p:PV}(h:BF I bl w v p)(d:p.okc=true)(g:p.isAgg=false\/p.flat=true):Rep I w v p\/(p.cells=[p]/\v.cells=#[v]/\p.Ag=p):=by
 by_cases e:p.flat=true
 ·exact .inl (h.flat e)
 ·refine .inr ?_
  cases p with
  |ref id off=>obtain⟨b,_,rfl⟩:=h.JB;exact⟨rfl,rfl,rfl⟩
  |arr id gen off len size=>obtain⟨_,_,_,_,_,_,_,_,_,_,rfl⟩:=h.JF;exact⟨rfl,rfl,rfl⟩
  |aptr id gen size i off=>obtain⟨_,_,_,_,rfl⟩:=h.KX;exact⟨rfl,rfl,rfl⟩
  |mref id=>obtain⟨_,_,rfl⟩:=h.KM;exact⟨rfl,rfl,rfl⟩
  |func f c cap=>obtain⟨_,_,rfl,_⟩:=h.L8;exact⟨rfl,rfl,rfl⟩
  |aggr cs=>rcases g with h | h<;>cases h
  |_=>simp[PV.okc,PV.Fz,PV.AzF] at d;exact absurd d e
def Mf.Tz{I:Imm}{bl:Bl}{v:Value}{p:PV}(h:BF I bl w v p)(f:p.okc=true):Mf I bl w v.cells.toList p.cells:=by
 have c:(∃cs,p=.aggr cs)\/(p.isAgg=false\/p.flat=true):=by cases p<;>first | exact .inl ⟨_,rfl⟩ | exact .inr (.inl rfl) | exact .inr (.inr rfl)
 rcases c with⟨cs,rfl⟩ | c
 ·exact .AxT h
 rcases oH h f c with h | ⟨d,e,_⟩
 ·exact .AU1 (MP.Qy h)
 ·rw[d,e];refine⟨rfl,λi q b=>?_⟩
  cases i with
  |zero=>simp at b;subst b;exact⟨v,rfl,h⟩
  |succ i=>simp at b
def Inv.wz(hi:Inv cx G a w A σ)(H:∀t,cx.al t=fi.alias t){d:Nat}(Q:d<cx.nt)(I:cx.kd d=.box){cs:Array Value}{t:TypeId}{p:PV}(l:Mf G.I G.bl w cs.toList p.cells)
  (z:∀(j:Nat) (q:PV),p.cells[j]?=some q->∀(G:Gh) (w:World) (D:Tag) (c:Value),EB G w D c q) :
  Sim cx (a.put (some d) (.pointer (some ⟨w.heap.size,0,none⟩))) (w.alloc (.cells cs t)) (Dw (A.set d (some p)) (fi.ptrs d) ((fi.ptrs d).map λ_=>none)) σ:=by
 let G':=G.MM w.heap.size (λ_=>False) (some (.slot d none))
 have g:=Gb (λM=>∃j,M=.slot d j) hi.base (.cells cs t) (λ_=>False) (some (.slot d none))
 refine⟨G',hi.step _ (some d) _ g (FD hi.base _ _ _) (by rw[Em];simp) ?_ (λid cs u=>.inl ⟨u,λj h=>by obtain⟨_,h⟩:=h;cases h⟩) hi.len hi.abl⟩
 intro s q n;obtain⟨C,n⟩:=M8 _ _ _ _ n;rw[Dp] at n
 split at n
 ·rename_i u;cases n;rw[u.1];refine .inr ((DV I).2 ⟨w.heap.size,Gc _ _ _ (by rw[hi.size];exact Q),if_pos rfl,?_,cs,t,heap_alloc_new' _ _,by simpa using l.1,λj r J=>.inl ⟨?_,z j r J ..⟩⟩)
  ·rintro x (h | ⟨_,h⟩)
   ·have:=hi.base.lt _ _ h;omega
   ·exact h
  ·obtain⟨c,B,F⟩:=l.2 j r J;rw[Bc] at B;rw[Ao,B];exact F.mono g.I g.same g.bl
 ·rename_i u;have y:s≠d:=λe=>u ⟨e,by have:=hi.room;omega⟩
  refine .inl ⟨n,λe=>y (Option.some.inj e).symm,λj h=>?_,λW off e L E=>?_,λm N=>?_⟩
  ·obtain⟨V,h⟩:=h;cases h;exact y rfl
  ·have:=Option.some.inj E;subst this;subst e;have f:=hi.slot s _ n;unfold Ei at f
   have k:cx.al s=some d:=by
    cases i:cx.kd s with
    |box => 
     rw[i] at f;obtain⟨b,_,Y,X,R,U,T,S,O⟩:=f;have:=((O 0 (.lref d off) rfl).rep (by simp)).1
     exact absurd this.free (by simp[PV.free])
    |mapb o=>rw[i] at f;exact absurd f.1 (by simp)
    |ent m K=>rw[i] at f;obtain⟨_,_,_,_,h,_⟩:=f;cases h
    |plain=>rw[i] at f;exact f.2.1
    |imm=>rw[i] at f;exact f.2.1
    |obj=>rw[i] at f;exact f.2.1
   rw[H] at k;exact C (kF k)
  ·obtain⟨o,v⟩:=cx.ents s m N;have:m≠d:=λe=>by rw[e,I] at v;cases v
   refine⟨λe=>this (Option.some.inj e).symm,?_⟩
   rintro⟨j,h⟩;cases h;exact this rfl
end
section
variable{P:Program}{pur:FuncId->Bool}{call:Caller}{fi:FI}{cx:Cx}{G:Gh}{a:Act}{w:World}{A A':Frm}{σ H:Sto}
def AK9{d:Nat}{k:PK}{j:List CW}{b:List Nat}(h:Cb pur call { dst:=some d,k:=.p k,args:=j,clr:=b } A σ=some (A',H)):
  ∃vs c,Cc A j=some vs/\AQ k vs=some c/\H=σ/\∀p,c=[p]->A'=Dw (A.set d p) b (b.map λ_=>none):=by
 unfold Cb at h;dsimp only at h
 split at h
 ·rename_i vs f;simp only[sem] at h
  split at h
  ·rename_i c g l;obtain⟨m,i,e⟩:=Ac.1 l;cases e;refine⟨vs,c,f,i,?_,?_⟩
   ·split at h
    ·cases h;rfl
    ·split at h<;>cases h;rfl
   ·rintro p rfl
    simp[AOp.wr,Dw] at h;rw[<-h.1]
  ·cases h
 ·cases h
def Aq8(hi:Inv cx G a w A σ)(f:∀t,cx.kd t=fi.kind t)(i:∀t,cx.al t=fi.alias t){o:Oper}{t:TypeId}{x:Operand}(B:o.op=.box t x){d:Nat}(h:o.dst=some d)
  (C:d<cx.nt) (r:cx.kd d=.box)
  {l:List CW} (D:Ar fi [x]=some l) (b:Cb pur call { dst:=some d,k:=.p .bxl,args:=l,clr:=fi.ptrs d } A σ=some (A',H)):Gives P cx o a w A' H:=by
 obtain⟨vs,F,v,e,rfl,u⟩:=AK9 b;obtain⟨y,zs,rfl,z,n⟩:=AX D;cases n;obtain⟨p,E,rfl,s,g⟩:=Av v;cases g;simp only[AQ] at e
 split at e
 ·rename_i m;cases e;rw[u _ rfl];have c:=(Bq hi f z s (LW m)).Ag;refine .inl ⟨.pointer (some ⟨w.heap.size,0,none⟩),w.alloc (.cells (a.eval x).cells t),?_,?_⟩
  ·simp only[execOp,B,Instr.box,newVar,newRow];rfl
  ·rw[h];exact hi.wz i C r (Mf.Tz c (by rw[Jt];exact m)) (λj q g=>Gw g)
 ·cases e
def WP{v:Value}{p:PV}(h:Ra v=some p):∀(j:Nat) (q:PV),p.cells[j]?=some q->∀(G:Gh) (w:World) (d:Tag) (c:Value),EB G w d c q:=by
 have l:∀{v:Value} {p:PV},KG v=some p->∀f es,p≠.slice true f es:=by
  intro v p h f es;unfold KG at h
  split at h<;>cases h<;>simp
 intro j q b G w d c;refine LV λf es e=>?_
 subst e;unfold Ra at h
 split at h
 ·rename_i cs;obtain⟨ps,k,rfl⟩:=Ac.1 h
  have g:∀(vs:List Value) (ps:List PV),QB vs=some ps->∀(i:Nat) (q:PV),ps[i]?=some q->∃v,KG v=some q:=by
   intro vs
   induction vs with
   |nil=>intro ps h i q b;cases h;simp at b
   |cons v vs s=>
    intro ps h i q b;unfold QB at h
    split at h
    ·rename_i r u m n;cases h;cases i with
     |zero=>simp at b;subst b;exact⟨v,m⟩
     |succ i=>exact s _ n i q (by simpa using b)
    ·cases h
  obtain⟨v,t⟩:=g _ _ k j _ b;exact l t _ _ rfl
 ·have o:p.cells=[p]:=by
   cases p with
   |agg cs=>unfold KG at h;split at h<;>cases h
   |aggr cs=>unfold KG at h;split at h<;>cases h
   |_=>rfl
  rw[o] at b;cases j with
  |zero=>simp at b;exact l h _ _ b
  |succ j=>simp at b
def AK1(hi:Inv cx G a w A σ)(m:∀t,cx.al t=fi.alias t){o:Oper}{t:TypeId}(r:o.op=.alloc t){d:Nat}(k:o.dst=some d)
  (s:d<cx.nt) (p:cx.kd d=.box) {z:PV} (f:F4 P t=some z)
  (e:Cb pur call { dst:=some d,k:=.p (.zl z),args:=[],clr:=fi.ptrs d } A σ=some (A',H)):Gives P cx o a w A' H:=by
 obtain⟨vs,x,q,n,rfl,u⟩:=AK9 e;cases q;simp only[AQ] at n;cases n;rw[u _ rfl];unfold F4 at f
 split at f
 ·rename_i v j;obtain⟨l,i,c⟩:=AB.1 f;have g:Rep G.I w l z:=Gv c;refine .inl ⟨.pointer (some ⟨w.heap.size,0,none⟩),w.alloc (.cells l.cells t),?_,?_⟩
  ·have b:(zeroValue t).run P w=.ok l w:=by simp[zeroValue,typeInfo,j,i]
   simp only[execOp,r,Instr.alloc,Sem.run_bind,b,Result.andThen_ok,newVar,newRow];rfl
  ·rw[k];exact hi.wz m s p (.AU1 (MP.Qy g)) (WP c)
 ·cases f
end
section
variable{P:Program}{pur:FuncId->Bool}{call:Caller}{fi:FI}{cx:Cx}{G:Gh}{a:Act}{w:World}{A A':Frm}{σ O:Sto}
def gB{c v:PV}{off n:Nat}{ag:Bool}(h:sub c off n ag=some v):fits n ag v=true:=by
 unfold sub at h;cases ag with
 |true=>
  cases c with
  |agg cs=>
   dsimp only at h
   split at h
   ·rename_i d;cases h;simp[fits];omega
   ·cases h
  |_=>cases h
 |false=>
  dsimp only at h
  split at h
  ·split at h
   ·cases h
   ·rename_i b;cases h;simp only[Dk,not_or] at b;cases v with
    |agg _=>exact absurd rfl b.1
    |aggr _=>exact absurd rfl b.1
    |_=>rfl
  ·cases h
def Sy{c v:PV}{off n:Nat}{ag:Bool}(h:sub c off n ag=some v):∀(j:Nat) (p:PV),v.cells[j]?=some p->p≠.self:=by
 unfold sub at h;cases ag with
 |true=>
  cases c with
  |agg cs=>
   dsimp only at h
   split at h
   ·rename_i f;cases h;intro j p d e;subst e;have:=Am d;have i:=Au.1 f.2 _ this;cases i
   ·cases h
  |_=>cases h
 |false=>
  dsimp only at h
  split at h
  ·split at h
   ·cases h
   ·rename_i b;cases h;simp only[Dk,not_or] at b
    have g:v.cells=[v]:=by
     cases v with
     |agg _=>exact absurd rfl b.1
     |aggr _=>exact absurd rfl b.1
     |_=>rfl
    intro j p d e;subst e;rw[g] at d;cases j with
    |zero=>simp at d;subst d;exact b.2 rfl
    |succ j=>simp at d
  ·cases h
def ug{c v:PV}{off n:Nat}(h:sub c off n true=some v):∀(j:Nat) (p:PV),v.cells[j]?=some p->p.flat=true:=by
 unfold sub at h;cases c with
 |agg cs=>
  dsimp only at h
  split at h
  ·rename_i d;cases h;intro j p b;exact Au.1 d.2 _ (Am b)
  ·cases h
 |_=>cases h
def DW{t:Nat}{p:PV}{ys:List CW}{c:List PV}(b:Cc A (.slot t::ys)=some (p::c)):A.get t=some p/\Cc A ys=some c:=by
 simp only[Cc] at b
 split at b
 ·rename_i v vs e d;cases b;exact⟨e,d⟩
 ·cases b
def QZ{I:Imm}{bl:Bl}{b off base n:Nat}{ag:Bool}{t:TypeId}(r:Cy P t=some (n,ag)){c v:PV}{cs:Array Value}{i:TypeId}(f:w.heap[b]?=some (.cells cs i (0,0)))
  (s:base+c.cells.length<=cs.size) (e:∀(j:Nat) (p:PV),c.cells[j]?=some p->p≠.self->BF I bl w (cs.getD (base+j) undef) p) (d:sub c off n ag=some v) :
  ∃u,(Instr.loadAt t (.pointer (some ⟨b,base+off,none⟩))).run P w=.ok u w/\BF I bl w u v:=by
 have g:=NB d
 obtain⟨u,q,x,z⟩:=Q0 (P:=P) (w:=w) (b:=b) (off:=base+off) (cv:=λj=>cs.getD (base+(off+j)) undef) r (gB d) (λj p k=>by
  have h:=g j p k;have m:base+(off+j) < cs.size:=by have:=(Ad.1 h).1;omega
  rw[GM];simp[World.cell?,f,Array.getD,m])
 refine⟨u,q,?_⟩
 cases ag with
 |true=>exact .one (.inl (x I (λj p k=>(e _ p (g j p k) (Sy d j p k)).flat (ug d j p k))))
 |false=>
  obtain⟨rfl,y⟩:=z rfl;have o:v.cells[0]?=some v:=by rw[y];rfl
  exact e _ v (g 0 v o) (Sy d 0 v o)
def IU{b off n:Nat}{ag:Bool}{t:TypeId}(l:Cy P t=some (n,ag)){h:Option Nat->Tag}{c v:PV}(e:Gr G w b h c.cells)(f:sub c off n ag=some v):
  ∃u,(Instr.loadAt t (.pointer (some ⟨b,off,none⟩))).run P w=.ok u w/\BF G.I G.bl w u v:=by
 obtain⟨_,_,cs,k,d,q,g⟩:=e;have:=QZ (P:=P) (I:=G.I) (bl:=G.bl) (base:=0) l d am (λj p m o=>by rw[BB];exact((g j p m).rep o).1) f
 rwa [BB] at this
def O8{b off n:Nat}{ag:Bool}{t:TypeId}(z:Cy P t=some (n,ag)){q:Option Nat->Tag}{c v:PV}(g:Gr G w b q c.cells)(d:Sz c off n ag=some v):
  ∃u,(Instr.loadAt t (.pointer (some ⟨b,off,none⟩))).run P w=.ok u w/\BF G.I G.bl w u v:=by
 unfold Sz at d
 split at d
 ·rename_i x F;cases d;exact IU z g F
 ·cases ag with
  |false=>cases d
  |true=>
   cases c with
   |agg cs=>
    dsimp only at d
    split at d
    case isFalse=>cases d
    rename_i E;cases d;obtain⟨_,_,vs,D,l,o,k⟩:=g;simp only[PV.cells] at o k;have r:∀j,j<n->off+j<vs.size:=λj C=>am
    have h:=run_loadCells (P:=P) (w:=w) ⟨b,off,none⟩ n (λj=>vs.getD (off+j) undef) (λj C=>by
     rw[FM];simp[World.cell?,l,Array.getD,r j C])
    refine⟨.agg ((List.range n).map λj=>vs.getD (off+j) undef).toArray,by simp[Instr.loadAt,Instr.sureAddr,loadVar,Jr z,run_sizeOf z,h],.aggr (by simp;omega) λi p m=>?_⟩
    have B:=m;rw[CO] at m
    split at m
    case isFalse=>cases m
    rename_i s;rw[CY] at m;have e:((List.range n).map λj=>vs.getD (off+j) undef).toArray.getD i undef=vs.getD (off+i) undef:=by simp[Array.getD,s]
    rw[e];have y:=Au.1 E.2 p (Am B);simp only[Aj] at y;exact((k _ p m).rep (by rintro rfl;cases y.1)).1.AKF y.1
   |_=>cases d
def X9(hi:Inv cx G a w A σ)(j:∀t,cx.kd t=fi.kind t)(i:cx.nt=fi.nt){o:Oper}{t:TypeId}{d:Nat}(x:o.op=.load t (.tmp d))(B:cx.kd d=.box){n:Nat}{ag:Bool}(s:Cy P t=some (n,ag))
  (y:BK fi o.dst=true) (h:Cb pur call { dst:=o.dst,k:=.p (.ldl 0 n ag),args:=[.slot d] } A σ=some (A',O)):Gives P cx o a w A' O:=by
 refine Hz hi j i y h λvs C r f=>?_
 match vs,f with
 |[c],f=>
  obtain⟨q,_⟩:=DW r;obtain⟨b,p,g⟩:=(DV B).1 (hi.slot d c q);simp only[AQ] at f;obtain⟨v,z,e⟩:=Ac.1 f;cases e;obtain⟨u,m,l⟩:=O8 (P:=P) s g z;have k:a.eval (.tmp d)=.pointer (some ⟨b,0,none⟩):=p;exact⟨_,u,rfl,by rw[Di];exact l.free,by simp[execOp,x,k,m],l.Ag,λ_=>Ct _⟩
 |[],f=>simp[AQ] at f
 |_::_::_,f=>simp[AQ] at f
def NL(hi:Inv cx G a w A σ){s d off:Nat}(n:A.get s=some (.lref d off)):cx.kd d=.box/\cx.al s=some d/\∃b,at' a d=.pointer (some ⟨b,0,none⟩)/\at' a s=.pointer (some ⟨b,off,none⟩):=by
 have h:=hi.slot s _ n;unfold Ei at h;cases c:cx.kd s with
 |box=>
  rw[c] at h;obtain⟨b,_,f,g,o,q,j,p,k⟩:=h;have:=((k 0 (.lref d off) rfl).rep (by simp)).1
  exact absurd this.free (by simp[PV.free])
 |mapb i=>rw[c] at h;exact absurd h.1 (by simp)
 |ent m l=>rw[c] at h;obtain⟨_,_,_,_,h,_⟩:=h;cases h
 |plain | imm | obj=>
  rw[c] at h;obtain⟨f,e,b,g,j⟩:=h;refine⟨f,e,b,g,?_⟩
  rw[j,FM,BB]
def LX(hi:Inv cx G a w A σ){s d off:Nat}(c:A.get s=some (.lref d off)):cx.kd d=.box/\∃b,at' a d=.pointer (some ⟨b,0,none⟩)/\at' a s=.pointer (some ⟨b,off,none⟩):=
 ⟨(NL hi c).1,(NL hi c).2.2⟩
def lF(hi:Inv cx G a w A σ)(p:∀t,cx.kd t=fi.kind t)(k:cx.nt=fi.nt){o:Oper}{t:TypeId}{s d:Nat}(H:o.op=.load t (.tmp s)){n:Nat}{ag:Bool}(D:Cy P t=some (n,ag))
  (I:BK fi o.dst=true) (j:Cb pur call { dst:=o.dst,k:=.p (.ldf d n ag),args:=[.slot s,.slot d] } A σ=some (A',O)):Gives P cx o a w A' O:=by
 refine Hz hi p k I j λvs M C g=>?_
 match vs,g with
 |[l,c],h=>
  obtain⟨q,r⟩:=DW C;obtain⟨J,_⟩:=DW r;cases l with
  |lref E off=>
   simp only[AQ] at h
   split at h
   ·rename_i e;subst e;obtain⟨v,F,e⟩:=Ac.1 h;cases e;obtain⟨B,b,K,x⟩:=LX hi q;obtain⟨L,i,f⟩:=(DV B).1 (hi.slot E c J);rw[K] at i;cases i;obtain⟨u,z,y⟩:=IU (P:=P) D f F;have m:a.eval (.tmp s)=.pointer (some ⟨b,off,none⟩):=x;exact⟨_,u,rfl,by rw[Di];exact y.free,by simp[execOp,H,m,z],y.Ag,λ_=>Ct _⟩
   ·cases h
  |_=>simp[AQ] at h
 |[],g=>simp[AQ] at g
 |[_],g=>simp[AQ] at g
 |_::_::_::_,g=>simp[AQ] at g
end
section
variable{P:Program}{pur:FuncId->Bool}{call:Caller}{fi:FI}{cx:Cx}{G:Gh}{a:Act}{w:World}{A A':Frm}{σ M:Sto}
def Inv.ZJ(hi:Inv cx G a w A σ){u d off b:Nat}(c:u<cx.nt/\(cx.kd u).val=true)(r:cx.kd d=.box)(p:cx.al u=some d)(x:at' a d=.pointer (some ⟨b,0,none⟩)):
  Inv cx G (a.put (some u) (.pointer (some ⟨b,off,none⟩))) w (A.set u (some (.lref d off))) σ:=by
 have i:u≠d:=λe=>by rw[e,r] at c;simp[SK.val] at c
 refine hi.step (λ_=>False) (some u) _ (Ext.refl _ _ _) hi.base (by simp) ?_ (λ_ cs f=>.inl ⟨f,λ_ h=>h⟩) hi.len hi.abl
 intro t q g;rw[Dp] at g
 split at g
 ·rename_i f;cases g;rw[f.1];refine .inr ?_
  have C:at' (a.put (some u) (.pointer (some ⟨b,off,none⟩))) u=.pointer (some ⟨b,off,none⟩):=Gc _ _ _ (by rw[hi.size];exact c.1)
  have z:at' (a.put (some u) (.pointer (some ⟨b,off,none⟩))) d=.pointer (some ⟨b,0,none⟩):=by rw[GI _ _ _ _ (λe=>i (Option.some.inj e))];exact x
  unfold Ei;cases n:cx.kd u<;>rw[n] at c<;>first | (simp[SK.val] at c;done) | exact⟨r,p,b,z,by rw[C,FM,BB]⟩
 ·rename_i f;have o:u≠t:=λe=>f ⟨e.symm,by have:=hi.room;omega⟩
  refine .inl ⟨g,λe=>o (Option.some.inj e),λ_ h=>h,λD s e l k=>?_,λm y=>⟨λB=>?_,λh=>h⟩⟩
  ·have:=Option.some.inj k;subst this;rw[l] at c;simp[SK.val] at c
  ·have:=Option.some.inj B;subst this;obtain⟨v,j⟩:=cx.ents t u y;rw[j] at c;simp[SK.val] at c
def Aq0(hi:Inv cx G a w A σ)(r:∀t,cx.kd t=fi.kind t)(k:cx.nt=fi.nt)(l:∀t,cx.al t=fi.alias t){o:Oper}{t:TypeId}{d f u:Nat}(C:o.op=.fieldAddr t (.tmp d) f)(j:o.dst=some u)
  {fs:Array Field} {h:Field} (i:P.underlying t=some (.struct fs)) (E:fs[f]?=some h) {n:Nat} {ag:Bool} (z:Cy P h.type=some (n,ag)) (q:n≠0)
  (v:cx.kd d=.box) (p:fi.alias u=some d) (F:Dn fi u=true) (g:Cb pur call { dst:=some u,k:=.p (.fal d h.offset),args:=[.slot d] } A σ=some (A',M)):Gives P cx o a w A' M:=by
 obtain⟨vs,I,y,D,rfl,B⟩:=nT g
 match vs,D with
 |[c],e=>
  obtain⟨H,_⟩:=DW y;obtain⟨b,x,s⟩:=(DV v).1 (hi.slot d c H);simp only[AQ] at e;rw[B _ (Option.some.inj e).symm];have m:a.eval (.tmp d)=.pointer (some ⟨b,0,none⟩):=x;refine .inl ⟨.pointer (some ⟨b,h.offset,none⟩),w,?_,G,?_⟩
  ·have:=JL (P:=P) (w:=w) i E z q b 0;rw[BB] at this;simp[execOp,C,m,this]
  ·rw[j];exact hi.ZJ (FU r k F) v (by rw[l];exact p) x
 |[],e=>simp[AQ] at e
 |_::_::_,e=>simp[AQ] at e
def uC(hi:Inv cx G a w A σ)(z:∀t,cx.kd t=fi.kind t)(p:cx.nt=fi.nt)(e:∀t,cx.al t=fi.alias t){o:Oper}{t:TypeId}{s d f u:Nat}(H:o.op=.fieldAddr t (.tmp s) f)(m:o.dst=some u)
  {fs:Array Field} {h:Field} (i:P.underlying t=some (.struct fs)) (E:fs[f]?=some h) {n:Nat} {ag:Bool} (I:Cy P h.type=some (n,ag)) (y:n≠0)
  (r:fi.alias s=some d) (k:fi.alias u=some d) (K:Dn fi u=true) {off:Nat} {v:Nat} (c:A.get s=some (.lref v off))
  (g:Cb pur call { dst:=some u,k:=.p (.fa h.offset n ag),args:=[.slot s] } A σ=some (A',M)):Gives P cx o a w A' M:=by
 obtain⟨vs,L,C,B,rfl,F⟩:=nT g
 have q:vs=[.lref v off]:=by
  simp only[Cc,c] at C;cases C;rfl
 subst q;simp only[AQ,faV] at B;rw[F _ (Option.some.inj B).symm]
 have j:v=d:=by
  have:=(NL hi c).2.1;rw[e,r] at this;exact(Option.some.inj this).symm
 subst j;obtain⟨D,b,J,l⟩:=LX hi c;have x:a.eval (.tmp s)=.pointer (some ⟨b,off,none⟩):=l;refine .inl ⟨.pointer (some ⟨b,off+h.offset,none⟩),w,?_,G,?_⟩
 ·have:=JL (P:=P) (w:=w) i E I y b off;simp[execOp,H,x,this]
 ·rw[m];exact hi.ZJ (FU z p K) D (by rw[e];exact k) J
end
section
variable{P:Program}{pur:FuncId->Bool}{call:Caller}{fi:FI}{cx:Cx}{G:Gh}{a:Act}{w:World}{A A':Frm}{σ U:Sto}
def Jy{X:Tag->Prop}{b:Nat}{i:Tag}(g:G.ω b=some i)(l:∀x,¬G.I b x)(j:X i)(cs:Array Value):Ext X G G w (w.setRow b cs):=by
 have d:∀c x,G.I c x->c≠b:=λc x h e=>l x (e▸h)
 refine⟨λ_ _ h=>h,⟨λc o h=>cell_of_heap (setRow_other _ _ _ _ (d _ _ h)),λc h=>setRow_other _ _ _ _ (d _ _ h)⟩,Bl.le_refl _,λ_ _ _ _=>rfl,λc m f k=>⟨f,setRow_other _ _ _ _ ?_,λ_ h=>h⟩⟩
 intro e;subst e;rw[g] at f;cases f;exact k j
def IZ(d:Base cx G w){b:Nat}{i:Tag}(g:G.ω b=some i)(j:∀x,¬G.I b x)(cs:Array Value):Base cx G (w.setRow b cs):=by
 have f:∀c x,G.I c x->c≠b:=λc x h e=>j x (e▸h)
 have l:∀c,cx.K c->c≠b:=λc h e=>(d.own b i g).2 (e▸h)
 refine⟨λc h=>?_,?_,d.sub,d.new,λc x h=>by rw[setRow_size];exact d.lt c x h,λc k h=>by rw[setRow_size];exact d.own c k h,d.Klt,by rw[setRow_size];exact d.grow,d.bl,d.os,d.tape,d.output⟩
 ·rw[setRow_other _ _ _ _ (l c h)];exact d.keep c h
 ·exact d.same.trans (I':=G.I) ⟨λc o h=>cell_of_heap (setRow_other _ _ _ _ (f _ _ h)),λc h=>setRow_other _ _ _ _ (f _ _ h)⟩ d.sub
def GQ{b off:Nat}{t d:TypeId}{n:Nat}{ag:Bool}(i:Cy P t=some (n,ag)){cs:Array Value}(e:w.heap[b]?=some (.cells cs d (0,0))){v:Value}(h:v.cells.size=n)
  (f:∀x∈v.cells.toList,x.oneCell'=true) (g:off+n<=cs.size) :
  (Instr.storeAt t (.pointer (some ⟨b,off,none⟩)) v).run P w=.ok () (w.setRow b (cs.toList.take off++v.cells.toList++cs.toList.drop (off+v.cells.toList.length)).toArray):=by
 have:=run_storeCells_at P b off d v.cells.toList 0 cs w e (by simp;omega) f
 simp only[FH] at this;simp[Instr.storeAt,Instr.sureAddr,storeVar,run_sizeOf i,h] at this ⊢;exact this
def Pn{I:Imm}{v:Value}{p:PV}(h:Rep I w v p)(g:p.ones=true):∀x∈v.cells.toList,x.oneCell'=true:=by
 intro x f;obtain⟨i,hi⟩:=BP.1 f;obtain⟨e,k⟩:=MP.Qy h;have b:i<p.cells.length:=by rw[<-e];exact(Ad.1 hi).1
 have l:=Af b;obtain⟨c,d,j⟩:=k i _ l;rw[hi] at d;cases d;exact R4 j (Au.1 g _ (Cg b))
def Ty{I:Imm}{bl:Bl}{v:Value}{p:PV}(h:BF I bl w v p)(k:p.okc=true)(q:p.ones=true):∀x∈v.cells.toList,x.oneCell'=true:=by
 by_cases l:p.flat=true
 ·exact Pn (h.flat l) q
 ·cases p with
  |ref id off=>obtain⟨b,_,rfl⟩:=h.JB;intro x c;simp[Value.cells] at c;subst c;rfl
  |arr id gen off len size=>obtain⟨_,_,_,_,_,_,_,_,_,_,rfl⟩:=h.JF;intro x c;simp[Value.cells] at c;subst c;rfl
  |aptr id gen size i off=>obtain⟨_,_,_,_,rfl⟩:=h.KX;intro x c;simp[Value.cells] at c;subst c;rfl
  |mref id=>obtain⟨_,_,rfl⟩:=h.KM;intro x c;simp[Value.cells] at c;subst c;rfl
  |func f j cap=>obtain⟨_,_,rfl,_⟩:=h.L8;intro x c;simp[Value.cells] at c;subst c;rfl
  |aggr ps=>
   intro x c;obtain⟨cs,rfl,o,n⟩:=h.UY;simp only[Value.cells] at c;obtain⟨i,hi⟩:=BP.1 c;rw[Bc] at hi;have g:i<ps.length:=by rw[<-o];exact(BG.1 hi).1
   have d:=n i _ (Af g);rw[Ao,hi] at d;have m:=Au.1 k _ (Cg g);simp only[Aj] at m;rcases d with d | d
   ·exact R4 d m.2
   ·cases e:ps[i] with
    |ref id off=>rw[e] at d;cases d;rfl
    |arr id gen off len size=>rw[e] at d;cases d;rfl
    |aptr id gen size i off=>rw[e] at d;cases d;rfl
    |mref id=>rw[e] at d;cases d;rfl
    |_=>rw[e] at d;cases d
  |_=>simp[PV.okc,PV.Fz,PV.AzF] at k;exact absurd k l
def NA{c x c':PV}{off:Nat}(h:upd c off x=some c'):c'.cells=Fw c.cells off x.cells/\off+x.cells.length<=c.cells.length:=by
 unfold upd at h
 split at h
 ·split at h
  ·rename_i f;cases h;exact⟨rfl,f⟩
  ·cases h
 ·split at h
  ·rename_i f;cases h;exact⟨rfl,f⟩
  ·cases h
 ·rename_i g d
  split at h
  ·cases h
  ·cases h
  ·rename_i e b
   split at h
   ·rename_i j;cases h;subst j;have i:c.cells=[c]:=by cases c<;>first | rfl | exact absurd rfl (g _) | exact absurd rfl (d _)
    have k:x.cells=[x]:=by cases x<;>first | rfl | exact absurd rfl (e _) | exact absurd rfl (b _)
    rw[i,k];exact⟨rfl,by simp⟩
   ·cases h
def Le{G':Gh}{t:World}{b off:Nat}{f:Option Nat->Tag}{ps i:List PV}{d:List Value}{cs:Array Value}{g:TypeId}
  (z:G'.ω b=some (f none)) (E:∀x,¬G'.I b x) (n:t.heap[b]?=some (.cells (cs.toList.take off++d++cs.toList.drop (off+d.length)).toArray g (0,0)))
  (B:cs.size=ps.length) (J:off+i.length<=ps.length) (u:d.length=i.length)
  (m:∀(j:Nat) (p:PV),ps[j]?=some p->(j<off\/off+i.length<=j)->Nz G' t b (f (some j)) (cs.getD j undef) p)
  (r:∀(j:Nat) (q:PV),i[j]?=some q->∃c,d[j]?=some c/\Nz G' t b (f (some (off+j))) c q):Gr G' t b f (Fw ps off i):=by
 have s:cs.toList.length=ps.length:=by simpa using B
 have C:(cs.toList.take off).length=off:=by rw[AA,s];omega
 have F:(ps.take off).length=off:=by rw[AA];omega
 refine⟨z,E,_,g,n,?_,λj p e=>?_⟩
 ·unfold Fw;simp only[Cq,Ae,AA,Aw,s,u]
 ·have o:∀(k:Nat) (c:Value) (l:List Value),l[k]?=some c->l.toArray.getD k undef=c:=by
   intro k c l h;rw[Ao,Dz,h];rfl
  unfold Fw at e;rw[AC] at e ⊢;by_cases v:j<off
  ·rw[AR am,CO,if_pos v] at e
   have y:=m j p e (.inl v)
   have:(cs.toList.take off++(d++cs.toList.drop (off+d.length))).toArray.getD j undef=cs.getD j undef:=by
    rw[Ao,Dz,AR am,CO,if_pos v,Bc,Ao]
   rw[this];exact y
  ·rw[Aq am,F] at e
   by_cases I:j - off<i.length
   ·rw[AR I] at e;obtain⟨c,H,D⟩:=r _ p e
    have:(cs.toList.take off++(d++cs.toList.drop (off+d.length))).toArray.getD j undef=c:=by
     apply o;rw[Aq am,C,AR am];exact H
    rw[this];rw[show off+(j - off)=j from am] at D
    exact D
   ·rw[Aq am,CY] at e
    rw[show off+i.length+(j - off - i.length)=j from am] at e
    have y:=m j p e (.inr am)
    have:(cs.toList.take off++(d++cs.toList.drop (off+d.length))).toArray.getD j undef=cs.getD j undef:=by
     rw[Ao,Dz,Aq am,C,Aq am,CY,
      show off+d.length+(j - off - d.length)=j from am,Bc,Ao]
    rw[this];exact y
def Inv.aK{G':Gh}{q:World}{X:Tag->Prop}{T:Nat->Prop}{d b:Nat}{c':PV}(hi:Inv cx G a w A σ)(c:Option Nat)(v:Value)(n:∀u,c=some u->(cx.kd u).val=true)
  (x:cx.kd d=.box) (N:at' a d=.pointer (some ⟨b,0,none⟩)) (g:Gr G' q b (.slot d) c'.cells) (K:Ext X G G' w q) (k:Base cx G' q) (r:G'.bl=G.bl)
  (s:∀D,X D->∃t j,D=.slot t j/\(t=d\/T t)) (E:∀t,T t->(cx.kd t).val=true) (Q:A'.length=A.length)
  (F:∀t p,A'.get t=some p->(t=d/\p=c')\/(t≠d/\¬T t/\c≠some t/\A.get t=some p)\/Ei cx G' (a.put c v) q t p):Inv cx G' (a.put c v) q A' σ:=by
 have f:∀m,(cx.kd m).val=false->c≠some m/\¬T m:=λm l=>by
  refine⟨λe=>?_,λe=>?_⟩
  ·rw[n m e] at l;cases l
  ·rw[E m e] at l;cases l
 refine hi.step X c v K k Q ?_ ?_ (by rw[r];exact hi.len) (by rw[r];exact hi.abl)
 ·intro t p M;rcases F t p M with⟨rfl,rfl⟩ | ⟨J,L,H,I⟩ | h
  ·refine .inr ((DV x).2 ⟨b,?_,g⟩)
   rw[GI _ _ _ _ (f t (by rw[x];rfl)).1];exact N
  ·refine .inl ⟨I,H,λj o=>?_,λO off e y=>(f O (by rw[y];rfl)).1,λm l=>?_⟩
   ·obtain⟨C,B,e,h⟩:=s _ o;cases e;rcases h with h | h
    ·exact J h
    ·exact L h
   ·obtain⟨z,i⟩:=cx.ents t m l;have:=f m (by rw[i];rfl)
    refine⟨this.1,λo=>?_⟩
    obtain⟨C,B,e,h⟩:=s _ o;cases e;rcases h with h | h
    ·rw[h,x] at i;cases i
    ·exact this.2 h
  ·exact .inr h
 ·intro id cs R;refine .inl ⟨R,λj o=>?_⟩
  obtain⟨C,B,e,_⟩:=s _ o;cases e
end
section
variable{P:Program}{pur:FuncId->Bool}{call:Caller}{fi:FI}{cx:Cx}{G:Gh}{a:Act}{w:World}{A A':Frm}{σ σ':Sto}
def NZ{ao:AOp}{k:PK}(d:ao.k=.p k)(h:Cb pur call ao A σ=some (A',σ')):
  ∃vs b,Cc A ao.args=some vs/\AQ k vs=some b/\σ'=σ/\(b.length=ao.dst.toList.length+ao.ex.length->A'=Dw A ao.wr (b++ao.clr.map λ_=>none)):=by
 unfold Cb at h
 split at h
 ·rw[d] at h
  split at h
  ·rename_i b c f
   let ⟨_,_,e⟩:=Ac.1 f
   grind
  ·cases h
 ·cases h
def QI{t:Nat}{p:PV}(h:A.get t=some p):t<A.length:=by
 unfold Frm.get at h
 grind
def JN(p:PV):p.Ag.ones=p.ones:=by
 cases p with
 |agg cs=>
  simp only[PV.Ag,PV.ones,PV.cells,List.all_map];congr 1
  funext x
  cases x<;>rfl
 |aggr cs=>
  simp  [PV.Ag,PV.ones,PV.cells,List.all_map]
  congr 1
  funext x
  cases x<;>rfl
 |_=>rfl
def XB(hi:Inv cx G a w A σ){d off b:Nat}{c p c':PV}(K:cx.kd d=.box)(I:A.get d=some c)(J:at' a d=.pointer (some ⟨b,0,none⟩)){v:Value}(i:BF G.I G.bl w v p)(r:p.okc=true)(o:p.ones=true)
  (m:∀(j:Nat) (q:PV),p.cells[j]?=some q->∀(G:Gh) (w:World) (z:Tag) (c:Value),EB G w z c q) (Q:upd c off p=some c') {t:TypeId} {n:Nat} {ag:Bool} (R:Cy P t=some (n,ag)) (S:p.cells.length=n) :
  ∃M,(Instr.storeAt t (.pointer (some ⟨b,off,none⟩)) v).run P w=.ok () M/\Inv cx G (a.put none undef) M (A.set d (some c')) σ:=by
 obtain⟨T,u,l,C,cs,L,g,F,x⟩:=(DV K).1 (hi.slot d c I);rw[J] at u;cases u;obtain⟨H,E⟩:=NA Q;have y:=Mf.Tz i r;have B  := by simpa using y.1
 have f:=Jy (G:=G) (w:=w) l C rfl (cs.toList.take off++v.cells.toList++cs.toList.drop (off+v.cells.toList.length)).toArray;refine⟨_,GQ R g am (Ty i r o) am,?_⟩
 refine hi.aK (T:=λ_=>False) (d:=d) (c':=c') none undef (by simp) K J ?_ f (IZ hi.base l C _) rfl ?_ (λ_ h=>h.elim) (by simp) ?_
 ·rw[H];refine Le l C (setRow_heap _ _ _ _ _ _ g) F E (by simpa using B) ?_ ?_
  ·intro j q k _;exact(x j q k).ext f (by simp)
  ·intro j q k;obtain⟨c,O,N⟩:=y.2 j q k;exact⟨c,O,.inl ⟨N.mono f.I f.same f.bl,m j q k ..⟩⟩
 ·grind
 ·intro s q k;rw[Dp] at k
  split at k
  ·grind
  ·rename_i h;exact .inr (.inl ⟨λe=>h ⟨e,QI I⟩,id,by simp,k⟩)
def zH(hi:Inv cx G a w A σ)(k:∀t,cx.kd t=fi.kind t){o:Oper}{t:TypeId}{s:Nat}{x:Operand}(O:o.op=.store t (.tmp s) x)(r:o.dst=none)(B:cx.kd s=.box){n:Nat}{ag:Bool}(L:Cy P t=some (n,ag))
  {E:List CW} (R:Ar fi [x]=some E) (g:Cb pur call { dst:=none,k:=.p (.stl 0 n),args:=.slot s::E,ex:=[s] } A σ=some (A',σ')):Gives P cx o a w A' σ':=by
 obtain⟨vs,S,C,i,rfl,H⟩:=NZ rfl g;obtain⟨y,zs,rfl,I,N⟩:=AX R;cases N;obtain⟨c,M,rfl,_,d⟩:=Av C;obtain⟨p,M,rfl,K,d⟩:=Av d;cases d
 let ⟨z,_⟩:=DW C
 simp only[AQ] at i
 split at i
 ·rename_i Q
  let ⟨l,h,u⟩:=Q
  let ⟨_,m,e⟩:=Ac.1 i
  cases e
  let ⟨b,D,_⟩:=(DV B).1 (hi.slot s c z)
  let ⟨F,J,f⟩:=XB hi B z D ((Bq hi k I K (LW h)).Ag) (by rw[Jt];exact h) (by rw[JN];exact u) (λj q d=>Gw d) m L (by rw[Eb];exact l)
  have v:a.eval (.tmp s)=.pointer _:=D;rw[H rfl];refine .inr ⟨F,?_,G,?_⟩
  ·simp[execOp,O,v,J]
  ·rw[r];exact f
 ·cases i
def lw(hi:Inv cx G a w A σ)(r:∀t,cx.kd t=fi.kind t){o:Oper}{t:TypeId}{s d:Nat}{x:Operand}(U:o.op=.store t (.tmp s) x)(B:o.dst=none){n:Nat}{ag:Bool}(Q:Cy P t=some (n,ag))
  {I:List CW} (X:Ar fi [x]=some I) (i:Cb pur call { dst:=none,k:=.p (.stf d n),args:=.slot s::.slot d::I,ex:=[d] } A σ=some (A',σ')):Gives P cx o a w A' σ':=by
 obtain⟨vs,Y,H,h,rfl,V⟩:=NZ rfl i;obtain⟨y,zs,rfl,L,K⟩:=AX X;cases K;obtain⟨l,J,rfl,_,m⟩:=Av H;obtain⟨c,J,rfl,_,F⟩:=Av m;obtain⟨p,J,rfl,O,f⟩:=Av F;cases f;obtain⟨D,_⟩:=DW H;obtain⟨M,_⟩:=DW m;cases l with
 |lref Z off=>
  simp only[AQ] at h
  split at h
  ·rename_i W;obtain⟨rfl,C,k,u⟩:=W
   let ⟨c',v,e⟩:=Ac.1 h
   cases e;obtain⟨S,b,R,z⟩:=LX hi D;obtain⟨T,N,g⟩:=XB hi S M R ((Bq hi r L O (LW k)).Ag) (by rw[Jt];exact k) (by rw[JN];exact u) (λj q m=>Gw m) v Q (by rw[Eb];exact C)
   have E:a.eval (.tmp s)=.pointer _:=z;rw[V rfl];refine .inr ⟨T,?_,G,?_⟩
   ·simp[execOp,U,E,N]
   ·rw[B];exact g
  ·cases h
 |_=>simp[AQ] at h
def ZO(f:Base cx G w){g t1:Tag}{v:Value}{p:PV}(m:EB G w g v p):
  ∃G',G'.I=G.I/\G'.bl=G.bl/\Ext (λj=>j=g) G G' w w/\Base cx G' w/\EB G' w t1 v p:=by
 by_cases h:∃c es,p=.slice true c es
 ·obtain⟨c,es,rfl⟩:=h;obtain⟨b,off,cap,cs,i,rfl,d,q,l,o,n,k,r⟩:=m;refine⟨G.retag b t1,rfl,rfl,Xv d rfl,UJ f d,?_⟩
  exact⟨b,_,_,_,_,rfl,by simp[Gh.retag],q,l,o,n,k,r⟩
 ·exact⟨G,rfl,rfl,Ext.refl _ _ _,f,LV (λc es e=>h ⟨_,_,e⟩)⟩
def Ext.weaken{X Y:Tag->Prop}{G G':Gh}{w i:World}(h:Ext X G G' w i)(c:∀f,X f->Y f):Ext Y G G' w i:=
 ⟨h.I,h.same,h.bl,λid d m g=>h.ab _ d (λj e=>m j (c _ e)) g,λb l k n=>h.fix b _ k (λe=>n (c _ e))⟩
def PV.JR:PV->Bool
 |.slice _ _ _ | .nils=>true
 |_=>false
def Kk{p:PV}(h:p.JR=true):p.free=true:=by cases p<;>first | rfl | simp[PV.JR] at h
def TT{p:PV}(h:p.JR=true):p.cells=[p]:=by cases p<;>first | rfl | simp[PV.JR] at h
def fU{p:PV}(h:p.JR=true):p.Ag.JR=true:=by cases p<;>first | rfl | simp[PV.JR] at h
def fT{I:Imm}{bl:Bl}{v:Value}{p:PV}(h:BF I bl w v p)(b:p.JR=true):Rep I w v p:=by
 refine h.rep (by cases p<;>first | rfl | cases b) ?_ ?_ ?_<;>(intros;intro e;subst e;simp[PV.JR] at b)
def NM{p:PV}(h:p.JR=true):p≠.self:=by intro e;subst e;simp[PV.JR] at h
def Xh{p:PV}(h:p.JR=true):p.ones=true:=by cases p<;>first | rfl | simp[PV.JR] at h
def fQ{I:Imm}{v:Value}{p:PV}(h:Rep I w v p)(b:p.JR=true):v.cells=#[v]:=by
 cases h<;>first | rfl | simp[PV.JR] at b
def uj{d:Nat}{l c v:PV}{f:List (Option PV)}(h:AQ (.stfo d) [l,c,v]=some f):∃off c',l=.lref d off/\v.JR=true/\upd c off v=some c'/\f=[some c',some v.Ag]:=by
 cases l with
 |lref s off=>
  simp only[AQ] at h
  split at h
  ·rename_i e;subst e;cases v<;>first | grind | (let ⟨_,b,e⟩:=Ac.1 h;exact⟨_,_,rfl,rfl,b,e.symm⟩)
  ·cases h
 |_=>simp[AQ] at h
def ut(hi:Inv cx G a w A σ)(hkd:∀t,cx.kd t=fi.kind t)(hnt:cx.nt=fi.nt){o:Oper}{t:TypeId}{s d u:Nat}(ho:o.op=.store t (.tmp s) (.tmp u))(hod:o.dst=none){n:Nat}{ag:Bool}(hn:Cy P t=some (n,ag))(X:n=1)
  (hu:Dn fi u=true) (L:Cb pur call { dst:=none,k:=.p (.stfo d),args:=[.slot s,.slot d,.slot u],ex:=[d,u] } A σ=some (A',σ')):Gives P cx o a w A' σ':=by
 subst X;obtain⟨vs,rs,he,hs,rfl,hA⟩:=NZ rfl L;obtain⟨l,qs,rfl,_,g⟩:=Av he;obtain⟨c,qs,rfl,_,hq'⟩:=Av g;obtain⟨p,qs,rfl,hp,R⟩:=Av hq';cases R;obtain⟨hgs,_⟩:=DW he;obtain⟨hg,_⟩:=DW g;obtain⟨off,c',rfl,v,T,rfl⟩:=uj hs;have z:=FU hkd hnt hu;obtain⟨W,b,hb,V⟩:=LX hi hgs;obtain⟨hrT,how⟩:=MU hi z.2 hp (Kk v);have m:=fT hrT v;obtain⟨G',e1,e2,i,C,J⟩:=ZO (t1:=.slot d (some off)) hi.base how;obtain⟨b',M,hω,hI,cs,elem,y,O,N⟩:=(DV W).1 (hi.slot d c hg);rw[hb] at M;cases M;obtain⟨Q,I⟩:=NA T;have U:u≠d:=λe=>by rw[e,W] at z;simp[SK.val] at z
 have B:G'.ω b=some (.slot d none):=(i.fix b _ hω (by simp;exact λe=>U e.symm)).1
 have F:∀x,¬G'.I b x:=by rw[e1];exact hI
 have H:=fQ m v;have hpc:=TT v;rw[hpc] at I Q
 let D:Array Value:=(cs.toList.take off++(at' a u).cells.toList++cs.toList.drop (off+(at' a u).cells.toList.length)).toArray
 have k:=Jy (G:=G') (w:=w) (X:=λS=>S=.slot d none) B F rfl D
 have f:Ext (λS=>S=.slot u none\/S=.slot d none) G G' w (w.setRow b D):=(i.weaken (λ_ h=>.inl h)).trans (k.weaken (λ_ h=>.inr h))
 have E:(Instr.storeAt t (.pointer (some ⟨b,off,none⟩)) (at' a u)).run P w=.ok () (w.setRow b D):=
  GQ hn y (by rw[H];rfl) (Pn m (Xh v)) (by rw[O];simpa using I)
 have Y:a.eval (.tmp s)=.pointer (some ⟨b,off,none⟩):=V;have K:a.eval (.tmp u)=at' a u:=rfl;rw[hA rfl];refine .inr ⟨w.setRow b D,?_,G',?_⟩
 ·simp[execOp,ho,Y,K,E]
 ·rw[hod];refine hi.aK (T:=λt=>t=u) (d:=d) (c':=c') none undef (by simp) W hb ?_ f (IZ C B F _) e2 ?_ (λt h=>by rw[h];exact z.2) ?_ ?_
  ·rw[Q];refine Le B F (setRow_heap _ _ _ _ _ _ y) O I (by rw[H];rfl) ?_ ?_
   ·intro j q g _;exact((N j q g).ext i (by simp)).ext k (by simp)
   ·intro j q g;cases j with
    |zero=>
     simp at g;subst g;exact⟨at' a u,by rw[H];rfl,.inl ⟨.one (.inl (m.mono f.I f.same)),J.ext k (by simp)⟩⟩
    |succ j=>simp at g
  ·grind
  ·rw[Em]
  ·intro r q g;simp only[AOp.wr,Option.toList,CK,Az,Bn,Dw] at g;rw[Dp] at g
   split at g
   ·rename_i h;cases g;refine .inr (.inr ?_)
    rw[h.1,Ch z.2 (by rw[Di];exact Kk v)]
    exact⟨.one (.inl (m.mono f.I f.same).Ag),Ct p⟩
   ·rename_i h1;rw[Dp] at g
    split at g
    ·rename_i h;cases g;exact .inl ⟨h.1,rfl⟩
    ·rename_i h2;refine .inr (.inl ⟨λe=>h2 ⟨e,QI hg⟩,λe=>h1 ⟨e,by simp;have:=hi.room;omega⟩,by simp,g⟩)
def wU{d:Nat}{l c:PV}{f:List (Option PV)}(h:AQ (.ldfo d) [l,c]=some f):∃off v c',l=.lref d off/\c.cells[off]?=some v/\v.JR=true/\upd c off v.Ag=some c'/\f=[some v,some c']:=by
 cases l with
 |lref s off=>
  simp only[AQ] at h
  split at h
  ·rename_i e;subst e
   split at h
   ·rename_i v g;cases v<;>first | grind | (let ⟨_,b,e⟩:=Ac.1 h;exact⟨_,_,_,rfl,g,rfl,b,e.symm⟩)
   ·cases h
  ·cases h
 |_=>simp[AQ] at h
def jB{ps:List PV}{off j:Nat}{x p:PV}(h:(Fw ps off [x])[j]?=some p)(c:off<ps.length):(j=off/\p=x)\/(j≠off/\ps[j]?=some p):=by
 unfold Fw at h;have b:(ps.take off).length=off:=by grind
 rw[AC] at h;by_cases e:j<off
 ·grind
 ·rw[Aq am,b] at h
  by_cases d:j=off
  ·grind
  ·rw[Aq (by simp;omega)] at h
   grind
def UF{G':Gh}{b off:Nat}{d:Option Nat->Tag}{ps:List PV}{v:PV}(k:v≠.self)(q:Gr G w b d ps)(o:ps[off]?=some v)(x:G'.I=G.I)(c:Ext (λu=>u=d (some off)) G G' w w)(n:∀i j,d i=d j->i=j):
  Gr G' w b d (Fw ps off [v.Ag]):=by
 obtain⟨l,s,cs,h,g,t,f⟩:=q;refine⟨(c.fix b _ l (λe=>by grind)).1,by simp_all,cs,h,g,?_,λj p m=>?_⟩
 ·unfold Fw
  grind
 ·rcases jB m ((Ad.1 o).1) with⟨rfl,rfl⟩ | ⟨r,m⟩
  ·exact .inl ⟨((f _ _ o).rep k).1.Ag.mono c.I c.same c.bl,Ct v⟩
  ·exact(f _ _ m).ext c (λe=>r (by grind))
def uz(hi:Inv cx G a w A σ)(U:∀t,cx.kd t=fi.kind t)(R:cx.nt=fi.nt){o:Oper}{t:TypeId}{s d u:Nat}(ho:o.op=.load t (.tmp s))(T:o.dst=some u){n:Nat}(hn:Cy P t=some (n,false))
  (hu:Dn fi u=true) (F:Cb pur call { dst:=some u,k:=.p (.ldfo d),args:=[.slot s,.slot d],ex:=[d] } A σ=some (A',σ')):Gives P cx o a w A' σ':=by
 obtain⟨vs,rs,W,hs,rfl,hA⟩:=NZ rfl F;obtain⟨l,qs,rfl,_,m⟩:=Av W;obtain⟨c,qs,rfl,_,S⟩:=Av m;cases S;obtain⟨M,_⟩:=DW W;obtain⟨Y,_⟩:=DW m;obtain⟨off,v,c',rfl,Q,k,K,rfl⟩:=wU hs;have B:=FU U R hu;obtain⟨X,b,Z,L⟩:=LX hi M;obtain⟨b',E,f⟩:=(DV X).1 (hi.slot d c Y);rw[Z] at E;cases E
 have J:sub c off n false=some v:=by
  simp only[sub,Q];rw[if_neg];intro e;cases v<;>simp[PV.isAgg,PV.isSelf,PV.JR] at e k
 obtain⟨x,D,hr2⟩:=IU (P:=P) hn f J;have p:=f;obtain⟨hω,hI,cs,elem,C,hsz,H⟩:=f;have N:off<cs.size:=by grind
 have hx:x=cs.getD off undef:=by
  have:(Instr.loadAt t (.pointer (some ⟨b,off,none⟩))).run P w=.ok (cs.getD off undef) w:=by
   have V:w.cell? ⟨b,off,none⟩=some (cs.getD off undef):=by simp[World.cell?,C,Array.getD,N]
   simp[Instr.loadAt,Instr.sureAddr,loadVar,Jr hn,V]
  rw[this] at D;cases D;rfl
 subst hx;obtain⟨G',e1,e2,y,z,how⟩:=ZO (t1:=.slot u none) hi.base ((H off v Q).rep (NM k)).2;obtain⟨I,hle⟩:=NA K;rw[TT (fU k)] at I;have O:a.eval (.tmp s)=.pointer (some ⟨b,off,none⟩):=L;rw[hA rfl];refine .inl ⟨cs.getD off undef,w,by simp[execOp,ho,O,D],G',?_⟩
 rw[T];refine hi.aK (X:=λtg=>tg=.slot d (some off)) (T:=λ_=>False) (d:=d) (c':=c') (some u) _ (λu' e=>by cases e;exact B.2) X Z ?_ y z e2 ?_ (λ_ h=>h.elim) ?_ ?_
 ·rw[I];exact UF (NM k) p Q e1 y (λi j e=>by cases e;rfl)
 ·intro tg h;exact⟨d,some off,h,.inl rfl⟩
 ·rw[Em]
 ·intro r q m;simp only[AOp.wr,Option.toList,CK,Az,Bg,Bn,Dw] at m;rw[Dp] at m
  split at m
  ·rename_i h;cases m;exact .inl ⟨h.1,rfl⟩
  ·rename_i h1;rw[Dp] at m
   split at m
   ·rename_i h;cases m;refine .inr (.inr ?_)
    rw[h.1,Ch B.2 (Kk k),Gc _ _ _ (by rw[hi.size];exact B.1)]
    grind
   ·rename_i h2;refine .inr (.inl ⟨λe=>h1 ⟨e,by simp;exact QI Y⟩,id,λe=>h2 ⟨(Option.some.inj e).symm,by have:=hi.room;omega⟩,m⟩)
end
def Gh.shut(G:Gh)(b:Nat)(J:Option Nat->Prop):Gh:=⟨λa x=>G.I a x\/(a=b/\J x),λa=>if a=b then none else G.ω a,G.bl⟩
section
variable{P:Program}{pur:FuncId->Bool}{call:Caller}{fi:FI}{cx:Cx}{G:Gh}{a:Act}{w:World}{A A':Frm}{σ σ':Sto}
def NU(c:Base cx G w){b:Nat}{g:Tag}(f:G.ω b=some g)(J:Option Nat->Prop):Base cx (G.shut b J) w:=by
 obtain⟨e,j⟩:=c.own b g f;refine⟨c.keep,c.same,λd x h=>.inl (c.sub d x h),λd x h=>?_,λd x h=>?_,λd i h=>?_,c.Klt,c.grow,c.bl,c.os,c.tape,c.output⟩
 ·rcases h with h | ⟨rfl,_⟩
  ·exact c.new d x h
  ·exact .inr j
 ·rcases h with h | ⟨rfl,_⟩
  ·exact c.lt d x h
  ·exact e
 ·simp only[Gh.shut] at h
  split at h
  ·cases h
  ·exact c.own d i h
def Uo{X:Tag->Prop}{b:Nat}{i:Tag}(g:G.ω b=some i)(j:X i)(J:Option Nat->Prop):Ext X G (G.shut b J) w w:=by
 refine⟨λ_ _ h=>.inl h,Same.refl _ _,Bl.le_refl _,λ_ _ _ _=>rfl,λl m d k=>?_⟩
 have c:l≠b:=by
  intro e;subst e;rw[g] at d;cases d;exact k j
 refine⟨by simp[Gh.shut,c,d],rfl,λx f=>?_⟩
 rcases f with f | ⟨rfl,_⟩
 ·exact f
 ·exact absurd rfl c
def Rv{t n:Nat}(c:(cx.kd t).val=true):Ei cx G a w t (.hole n)↔∃b,at' a t=.pointer (some ⟨b,0,none⟩)/\U7 G w b (.slot t none) n:=by
 unfold Ei;cases h:cx.kd t<;>rw[h] at c<;>first | (simp[SK.val] at c;done) | exact Iff.rfl
def AK2(hi:Inv cx G a w A σ){o:Oper}{t:TypeId}(K:o.op=.alloc t){d:Nat}(D:o.dst=some d)
  (O:d<cx.nt) (f:(cx.kd d).val=true) {z:PV} (l:F4 P t=some z) {n:Nat} (C:z.cells.length=n)
  (c:Cb pur call { dst:=some d,k:=.p (.zi n),args:=[] } A σ=some (A',σ')):Gives P cx o a w A' σ':=by
 obtain⟨vs,T,L,I,rfl,M⟩:=NZ rfl c;cases L;simp only[AQ] at I;cases I;rw[M rfl];unfold F4 at l
 split at l
 ·rename_i S E;obtain⟨p,v,y⟩:=AB.1 l;have r:Rep G.I w p z:=Gv y;refine .inl ⟨.pointer (some ⟨w.heap.size,0,none⟩),w.alloc (.cells p.cells t),?_,G.MM w.heap.size (λ_=>False) (some (.slot d none)),?_⟩
  ·have b:(zeroValue t).run P w=.ok p w:=by simp[zeroValue,typeInfo,E,v]
   simp only[execOp,K,Instr.alloc,Sem.run_bind,b,Result.andThen_ok,newVar,newRow];rfl
  ·rw[D];refine hi.step (λJ=>J=.slot d none) (some d) _ (Gb _ hi.base _ _ _) (FD hi.base _ _ _) (by rw[Em]) ?_ (λ_ cs N=>.inl ⟨N,λ_ h=>by cases h⟩) hi.len hi.abl
   intro s q i;simp only[AOp.wr,Option.toList,CK,Az,Dw] at i;rw[Dp] at i
   split at i
   ·rename_i h;cases i;refine .inr ?_
    rw[h.1,Rv f];refine⟨w.heap.size,Gc _ _ _ (by rw[hi.size];exact O),if_pos rfl,?_,p.cells,t,heap_alloc_new' _ _,?_⟩
    ·rintro x (h | ⟨_,h⟩)
     ·have:=hi.base.lt _ _ h;omega
     ·exact h
    ·rw[(GU r).1,C]
   ·rename_i h;have k:s≠d:=λe=>h ⟨e,by have:=hi.room;omega⟩
    refine .inl ⟨i,λe=>k (Option.some.inj e).symm,λj h=>?_,λR off e u B=>?_,λm Q=>?_⟩
    ·cases h;exact k rfl
    ·have:=Option.some.inj B;subst this;rw[u] at f;simp[SK.val] at f
    ·obtain⟨H,g⟩:=cx.ents s m Q;have:m≠d:=λe=>by rw[e] at g;rw[g] at f;simp[SK.val] at f
     exact⟨λe=>this (Option.some.inj e).symm,λe=>by cases e;exact this rfl⟩
 ·cases l
def zI(hi:Inv cx G a w A σ)(S:∀t,cx.kd t=fi.kind t){o:Oper}{t:TypeId}{s:Nat}{x:Operand}(ho:o.op=.store t (.tmp s) x)(Q:o.dst=none)(F:(cx.kd s).val=true){n:Nat}{ag:Bool}(hn:Cy P t=some (n,ag))
  {Z:List CW} (H:Ar fi [x]=some Z) (E:Cb pur call { dst:=none,k:=.p (.sti n),args:=.slot s::Z,ex:=[s] } A σ=some (A',σ')):Gives P cx o a w A' σ':=by
 obtain⟨vs,rs,T,C,rfl,hA⟩:=NZ rfl E;obtain⟨y,zs,rfl,hy,hz⟩:=AX H;cases hz;obtain⟨c,qs,rfl,_,d⟩:=Av T;obtain⟨p,qs,rfl,hp,d⟩:=Av d;cases d;obtain⟨V,_⟩:=DW T;cases c with
 |hole m=>
  simp only[AQ] at C
  split at C
  ·rename_i hf;obtain⟨rfl,K,B,O⟩:=hf;cases C;obtain⟨b,W,l,X,cs,U,g,hsz⟩:=(Rv F).1 (hi.slot s _ V);have f:=((Bq hi S hy hp (Jh B)).flat B).Ag;have D:=(GU f).1;rw[Eb,K] at D
   have u:(cs.toList.take 0++(a.eval x).cells.toList++cs.toList.drop (0+(a.eval x).cells.toList.length)).toArray=(a.eval x).cells:=by
    rw[List.take_zero,Co (by simp;omega)];simp
   have i:=GQ (off:=0) hn g D (Pn f (by rw[JN];exact O)) am
   rw[u] at i;have I:a.eval (.tmp s)=.pointer (some ⟨b,0,none⟩):=W
   let J:Option Nat->Prop:=λx=>∃o,x=some o
   have z:=Jy (G:=G) (w:=w) (X:=λN=>N=.slot s none) l X rfl (a.eval x).cells
   have v:=Uo (G:=G) (w:=w.setRow b (a.eval x).cells) (X:=λN=>N=.slot s none) l rfl J
   have k:=z.trans v;rw[hA rfl];refine .inr ⟨w.setRow b (a.eval x).cells,by simp[execOp,ho,I,i],G.shut b J,?_⟩
   rw[Q];refine hi.step _ none undef k (NU (IZ hi.base l X _) l J) (by rw[Em]) ?_ (λ_ cs H=>.inl ⟨H,λ_ h=>by cases h⟩) hi.len hi.abl
   intro r q d;simp only[AOp.wr,Option.toList,CK,Az,Bn,Dw] at d;rw[Dp] at d
   split at d
   ·rename_i h;cases d;refine .inr ?_
    rw[h.1,Ch F rfl];refine⟨?_,trivial⟩
    show BF _ _ _ (at' a s) _;rw[W];refine .one (.inl (.vptr (λj=>(a.eval x).cells.getD j undef) (λj q d=>.inr ⟨rfl,⟨_,rfl⟩⟩) (λj q d=>?_) (λj q d=>((GU f).2 j q d).mono k.I k.same)))
    have L:j<(a.eval x).cells.size:=by have:=(Ad.1 d).1;rw[Eb] at this;omega
    simp[World.cell?,setRow_heap _ _ _ _ _ _ g,Array.getD,L]
   ·rename_i h;have R:r≠s:=λe=>h ⟨e,QI V⟩
    refine .inl ⟨d,by simp,λj h=>by cases h;exact R rfl,λ_ _ _ _=>by simp,λm' hm=>⟨by simp,λe=>?_⟩⟩
    cases e;obtain⟨Y,M⟩:=cx.ents r s hm;rw[M] at F;simp[SK.val] at F
  ·cases C
 |_=>simp[AQ] at C
end
section
variable{P:Program}{pur:FuncId->Bool}{call:Caller}{fi:FI}{cx:Cx}{G:Gh}{a:Act}{w:World}{A A':Frm}{σ σ':Sto}
structure Iw(b:Nat)(w w':World):Prop where
 other:∀k,k≠b->w'.heap[k]?=w.heap[k]?
 size:w'.heap.size=w.heap.size
 os:w'.os=w.os
 tape:w'.tape=w.tape
 output:w'.output=w.output
def QM{X:Tag->Prop}{b:Nat}{g:Tag}{i:World}(h:Iw b w i)(j:G.ω b=some g)(k:∀x,¬G.I b x)(l:X g):Ext X G G w i:=by
 have f:∀d x,G.I _ x->d≠b:=λd x h e=>k x (e▸h)
 refine⟨by simp,⟨λd o c=>cell_of_heap (h.other _ (f _ _ c)),λd c=>h.other _ (f _ _ c)⟩,Bl.le_refl _,by simp,λd m c n=>⟨c,h.other _ ?_,by simp⟩⟩
 grind
def UL(c:Base cx G w){b:Nat}{l:Tag}{j:World}(h:Iw b w j)(i:G.ω b=some l)(k:∀x,¬G.I b x):Base cx G j:=by
 have g:∀d x,G.I d x->d≠b:=λd x h e=>k x (e▸h)
 refine⟨λd f=>?_,?_,c.sub,c.new,λd x f=>by rw[h.size];exact c.lt _ x f,λd m f=>by rw[h.size];exact c.own _ _ f,c.Klt,by rw[h.size];exact c.grow,c.bl,by rw[h.os];exact c.os,by rw[h.tape];exact c.tape,by rw[h.output];exact c.output⟩
 ·rw[h.other _ ((λd h e=>(c.own b _ i).2 (e▸h): ∀d,cx.K d->d≠b) _ f)];exact c.keep _ f
 ·exact c.same.trans ⟨λd o f=>cell_of_heap (h.other _ (g _ _ f)),λd f=>h.other _ (g _ _ f)⟩ c.sub
def H8{t:Nat}{v:PV}{b:List Ky}(c:cx.kd t=.mapb b):Ei cx G a w t v↔(v=.mapb/\∃r,at' a t=.map (some r)/\Qg G w r (.slot t none) b):=by
 unfold Ei;rw[c]
def IL{t m:Nat}{b:Ky}{v:PV}(d:cx.kd t=.ent m b):Ei cx G a w t v↔∃k x c r,v=.tuple [k,x]/\RB k=some c/\at' a m=.map (some r)/\Qd G w r (.slot m none) c x/\c=b:=by
 unfold Ei;rw[d]
def TI{t m:Nat}{b:Ky}(h:fi.kind t=.ent m b):t∈fi.LB m:=by
 unfold FI.LB;rw[Dj];refine⟨?_,by grind⟩
 unfold FI.kind at h
 grind
def oK{t m:Nat}(h:t∈fi.LB m):∃b,fi.kind t=.ent m b:=by
 unfold FI.LB at h
 grind
def zN(hi:Inv cx G a w A σ)(i:∀t,cx.kd t=fi.kind t){o:Oper}{t:TypeId}(F:o.op=.makeMap t none){s:Nat}(l:o.dst=some s)
  (B:s<cx.nt) {d:List Ky} (v:cx.kd s=.mapb d)
  (f:Cb pur call { dst:=some s,k:=.p .mkm,args:=[],clr:=fi.LB s } A σ=some (A',σ')):Gives P cx o a w A' σ':=by
 obtain⟨vs,I,C,p,rfl,E⟩:=AK9 f;cases C;cases p;rw[E _ rfl];refine .inl ⟨.map (some w.heap.size),w.alloc (.map #[] 0),by simp[execOp,F,Instr.makeMap],G.MM w.heap.size (λ_=>False) (some (.slot s none)),?_⟩
 rw[l];refine hi.step _ (some s) _ (Gb (G:=G) (λy=>y=.slot s none) hi.base (.map #[] 0) (λ_=>False) (some (.slot s none))) (FD hi.base _ _ _) (by rw[Em];simp) ?_ (λ_ cs D=>.inl ⟨D,λ_ h=>by cases h⟩) hi.len hi.abl
 intro r q b;obtain⟨n,b⟩:=M8 _ _ _ _ b;rw[Dp] at b
 split at b
 ·rename_i h;cases b;refine .inr ?_
  rw[h.1,H8 v];refine⟨rfl,w.heap.size,Gc _ _ _ (by rw[hi.size];exact B),if_pos rfl,?_,#[],0,heap_alloc_new' _ _,by simp,by simp⟩
  rintro x (h | ⟨_,h⟩)
  ·have:=hi.base.lt _ _ h;omega
  ·exact h
 ·rename_i h;have c:r≠s:=λe=>h ⟨e,by have:=hi.room;omega⟩
  refine .inl ⟨b,λe=>c (Option.some.inj e).symm,λj h=>by cases h;exact c rfl,λJ off e z u=>?_,λm p=>?_⟩
  ·grind
  ·obtain⟨H,g⟩:=p
   have:m≠s:=λe=>by
    subst e;rw[i] at g;exact n (TI g)
   grind
def bV(k:Ky):Instr.sameBits 10000 k.val k.val=true:=by
 cases k with
 |i k n=>simp[Ky.val,Instr.sameBits]
 |s l=>
  exact(Go.MapKept.bytes_beq _ _).2 rfl
def Yb{t kt et:TypeId}(ht:P.underlying t=some (.map kt et)){d:TypeDesc}(D:P.underlying kt=some d)(T:(∃k,d=.int k)\/d=.string){k:Ky}(C:k.isInt=d.isInt)
  {r b:Nat} {es:Array MapEntry} (p:w.heap[r]?=some (.map es b)) (U:∀(i:Nat) (e:MapEntry),es[i]?=some e->∃k',e.key=k'.val/\sameKind k k'=true)
  (S:∀(i j:Nat) (e f:MapEntry),es[i]?=some e->es[j]?=some f->e.key=f.key->i=j) (v:Value) :
  ∃(X:World) (es':Array MapEntry) (y:Nat),(Instr.mapUpdate t (.map (some r)) k.val v).run P w=.ok () X/\Iw r w X/\X.heap[r]?=some (.map es' y)/\
   (∃(i:Nat) (e:MapEntry),es'[i]?=some e/\e.key=k.val/\e.val=v)/\(∀(i:Nat) (e:MapEntry),es[i]?=some e->e.key≠k.val->es'[i]?=some e)/\
   (∀(i:Nat) (e:MapEntry),es'[i]?=some e->e.key=k.val\/es[i]?=some e)/\
   (∀(i j:Nat) (e f:MapEntry),es'[i]?=some e->es'[j]?=some f->e.key=f.key->i=j):=by
 have Y:(∃i,d=.int i)/\(∃i n,k=.i i n)\/d=.string/\∃l,k=.s l:=by
  rcases T with⟨i,rfl⟩ | rfl
  ·cases k with
   |i j n=>exact .inl ⟨⟨i,rfl⟩,j,n,rfl⟩
   |s l=>simp[TypeDesc.isInt,Ky.isInt] at C
  ·cases k with
   |i j n=>simp[TypeDesc.isInt,Ky.isInt] at C
   |s l=>exact .inr ⟨rfl,l,rfl⟩
 have I:=run_checkKey (P:=P) (w:=w) (empty:=false) D T k.val;have B:(getObj r).run P w=.ok (.map es b) w:=by simp[getObj,Sem.run,p]
 have V:r<w.heap.size:=by
  rcases Be r w.heap.size with h | h
  ·exact h
  ·rw[DN h] at p;cases p
 have z:∀o:Obj,Iw r w { w with heap:=w.heap.setIfInBounds r o }:=λo=>
  ⟨λk hk=>by show(w.heap.setIfInBounds r o)[k]?=_;rw[DK (λe=>hk e.symm)],by simp,rfl,rfl,rfl⟩
 have u:∀o:Obj,({ w with heap:=w.heap.setIfInBounds r o }:World).heap[r]?=some o:=λo=>by
  show(w.heap.setIfInBounds r o)[r]?=_;simp[V]
 rcases Mv Y es.toList 0 (λe he=>by
   obtain⟨i,R⟩:=BP.1 he;rw[Bc] at R;exact U i e R) with⟨j,e,x,N,E⟩ | ⟨hno,E⟩
 ·rw[Bc] at x;have hjl:j<es.size:=(BG.1 x).1
  let es':=es.modify j λe=>{ e with key:=k.val,val:=v }
  have c:∀i,es'[i]?=if j=i then(es[i]?).map (λe=>{ e with key:=k.val,val:=v }) else es[i]?:=λi=>by
   show(es.modify j _)[i]?=_;rw[Dh]
  have W:es'[j]?=some { e with key:=k.val,val:=v }:=by rw[c,if_pos rfl,x];rfl
  refine⟨{ w with heap:=w.heap.setIfInBounds r (.map es' b) },es',b,?_,z _,u _,⟨j,_,W,rfl,rfl⟩,λi f m Q=>?_,λi f m=>?_,λi i' f f' m F J=>?_⟩
  ·have H:(setObj r (.map es' b)).run P w=.ok () { w with heap:=w.heap.setIfInBounds r (.map es' b) }:=MapKept.run_setObj_map _ p
   have O:(Instr.keyThatStays (((es[j]?).map (·.key)).getD k.val) k.val).run P w=.ok k.val w:=by
    rw[x];simp[Instr.keyThatStays,N,bV]
   simp only[Instr.mapUpdate,Sem.run_bind,run_underlying ht,Result.andThen_ok,B,I,MapKept.run_findKey D E,BB,O];exact H
  ·have hij:j≠i:=λe'=>by subst e';rw[x] at m;cases m;exact Q N
   rw[c,if_neg hij];exact m
  ·rw[c] at m
   split at m
   ·obtain⟨e',_,rfl⟩:=Ac.1 m;exact .inl rfl
   ·exact .inr m
  ·have L:∀(i:Nat) (f:MapEntry),es'[i]?=some f->∃g,es[i]?=some g/\g.key=f.key:=λi f m=>by
    rw[c] at m
    split at m
    ·grind
    ·exact⟨f,m,rfl⟩
   obtain⟨g,hg,hgk⟩:=L i f m;obtain⟨g',Z,K⟩:=L i' f' F;exact S i i' g g' hg Z (by rw[hgk,K,J])
 ·let es':=es.push { key:=k.val,val:=v,born:=b }
  have c:∀i,es'[i]?=if i=es.size then some { key:=k.val,val:=v,born:=b } else es[i]?:=λi=>by
   show(es.push _)[i]?=_;rw[FP]
  have M:∀(i:Nat) (f:MapEntry),es[i]?=some f->i≠es.size:=λi f m e=>by
   have:=(BG.1 m).1;omega
  refine⟨{ w with heap:=w.heap.setIfInBounds r (.map es' (b+1)) },es',b+1,?_,z _,u _,⟨es.size,_,by rw[c,if_pos rfl],rfl,rfl⟩,λi f m Q=>?_,λi f m=>?_,λi i' f f' m F J=>?_⟩
  ·have H:(setObj r (.map es' (b+1))).run P w=.ok () { w with heap:=w.heap.setIfInBounds r (.map es' (b+1)) }:=MapKept.run_setObj_map _ p
   simp only[Instr.mapUpdate,Sem.run_bind,run_underlying ht,Result.andThen_ok,B,I,MapKept.run_findKey D E];exact H
  ·rw[c,if_neg (M i f m)];exact m
  ·rw[c] at m
   split at m
   ·cases m;exact .inl rfl
   ·exact .inr m
  ·rw[c] at m F
   grind
def lG(hi:Inv cx G a w A σ)(V:∀t,cx.kd t=fi.kind t){o:Oper}{t kt et:TypeId}{m s:Nat}{kx x:Operand}(ho:o.op=.insert t (.tmp m) kx x)(hod:o.dst=none)
  (ht:P.underlying t=some (.map kt et)) {d:TypeDesc} (hkt:P.underlying kt=some d) (hdk:(∃k,d=.int k)\/d=.string) {H:Ky} (M:H.isInt=d.isInt) {C:List Ky} (T:cx.kd m=.mapb C) (E:cx.kd s=.ent m H)
  {az:List CW} (hc:Ar fi [kx,x]=some az) (R:Cb pur call { dst:=none,k:=.p (.ins H C),args:=.slot m::az,ex:=[s] } A σ=some (A',σ')):Gives P cx o a w A' σ':=by
 obtain⟨vs,rs,X,J,rfl,hA⟩:=NZ rfl R;obtain⟨y1,zs,rfl,hy1,hz⟩:=AX hc;obtain⟨y2,zs,rfl,hy2,hz⟩:=AX hz;cases hz;obtain⟨c,qs,rfl,_,l⟩:=Av X;obtain⟨k,qs,rfl,Z,l⟩:=Av l;obtain⟨p,qs,rfl,hp2,l⟩:=Av l;cases l;obtain⟨hg,_⟩:=DW X;obtain⟨rfl,r,K,y,hI,es,clock,v,hes,N⟩:=(H8 T).1 (hi.slot m c hg);simp only[AQ] at J
 split at J
 ·rename_i k' D
  split at J
  ·rename_i hf;obtain⟨rfl,hf1,hf2,S⟩:=hf;cases J;have hkv:=TN D (Bq hi V hy1 Z (OM D));have Q:=((Bq hi V hy2 hp2 (Jh S)).flat S).Ag;obtain⟨w',es',f,F,U,b,⟨i0,e0,hi0,hk0,hv0⟩,O,L,I⟩:=Yb (P:=P) (w:=w) ht hkt hdk M v (λi e h=>by grind) N (a.eval x)
   have g:=QM (X:=λtg=>tg=.slot m none) U y hI rfl
   have hev:a.eval (.tmp m)=.map (some r):=K;rw[hA rfl];refine .inr ⟨w',by simp[execOp,ho,hev,hkv,F],G,?_⟩
   rw[hod];refine hi.step _ none undef g (UL hi.base U y hI) (by rw[Em]) ?_ (λ_ cs hc=>.inl ⟨hc,λ_ h=>by cases h⟩) hi.len hi.abl
   intro u q l;simp only[AOp.wr,Option.toList,CK,Az,Bn,Dw] at l;rw[Dp] at l
   split at l
   ·rename_i h;cases l;refine .inr ?_
    rw[h.1,IL E];exact⟨k,p.Ag,k',r,rfl,D,K,⟨y,es',f,i0,e0,b,hi0,hk0,by rw[hv0];exact Q.mono g.I g.same⟩,rfl⟩
   ·rename_i h;by_cases W:u=m
    ·subst W;refine .inr ?_
     rw[hg] at l;cases l;rw[H8 T];refine⟨rfl,r,K,y,hI,es',f,b,λi e X=>?_,I⟩
     rcases L i e X with h' | h'
     ·exact⟨k',by simpa using hf1,h'⟩
     ·exact hes i e h'
    ·by_cases n:∃B,cx.kd u=.ent m B
     ·obtain⟨B,n⟩:=n;refine .inr ?_
      obtain⟨k2,x2,z,r2,rfl,h1,h2,⟨h3,es2,Y,i2,e2,h4,h5,h6,h7⟩,rfl⟩:=(IL n).1 (hi.slot u q l);rw[K] at h2;cases h2;rw[v] at h4;cases h4;rw[IL n]
      have hne:z≠k':=λe=>by
       subst e
       exact h ⟨cx.uniq u s m z n E,by
        have:=QI l;rw[<-cx.uniq u s m z n E];exact this⟩
      refine⟨k2,x2,z,r,rfl,h1,K,⟨y,es',f,i2,e2,b,O i2 e2 h5 (by rw[h6];exact λe=>hne (XP e)),h6,h7.mono g.I g.same⟩,rfl⟩
     ·refine .inl ⟨l,by simp,λj h=>by cases h;exact W rfl,λ_ _ _ _=>by simp,λm' hm=>⟨by simp,λe=>?_⟩⟩
      cases e;exact n hm
  ·cases J
 ·cases J
def PM:∀(ks:List Ky) (ps vs:List PV),entries ks ps=some vs->ps.length=ks.length/\vs.length=ks.length/\∀(j:Nat) (k:Ky),ks[j]?=some k->∃a v,ps[j]?=some (.tuple [a,v])/\RB a=some k/\vs[j]?=some v
 |[],[],vs,h=>by simp[entries] at h;grind
 |[],p::ps,vs,h=>by simp[entries] at h
 |k::ks,[],vs,h=>by simp[entries] at h
 |k::ks,p::ps,vs,h=>by
  cases p with
  |tuple xs=>
   rcases xs with _ | ⟨a,_ | ⟨v,_ | ⟨b,xs⟩⟩⟩
   ·simp[entries] at h
   ·simp[entries] at h
   ·simp  [entries] at h
    split at h
    ·rename_i g d l f
     split at h
     ·rename_i e
      let ⟨_,_,i⟩:=PM ks ps _ f
      grind
     ·cases h
    ·cases h
   ·simp[entries] at h
  |_=>simp[entries] at h
def Xw:∀(ts:List Nat) (ps:List PV),Cc A (ts.map .slot)=some ps->∀(j:Nat) (p:PV),ps[j]?=some p->∃t,ts[j]?=some t/\A.get t=some p
 |[],ps,h,j,p,c=>by cases h;simp at c
 |t::ts,ps,h,j,p,c=>by
  obtain⟨q,f,rfl,e,d⟩:=Av h;cases j with
  |zero=>
   simp at c;subst c;exact⟨t,rfl,(DW e).1⟩
  |succ j=>simpa using Xw _ _ d j p (by grind)
def zL(hi:Inv cx G a w A σ)(z:∀t,cx.kd t=fi.kind t)(Z:cx.nt=fi.nt){o:Oper}{s u:Nat}(ho:o.op=.move (.tmp s))(hod:o.dst=some u){b:List Ky}(hk:cx.kd s=.mapb b)(hu:Dn fi u=true)
  (C:Cb pur call { dst:=some u,k:=.p (.mvb b),args:=.slot s::(fi.LB s).map .slot,ex:=[s],clr:=fi.LB s } A σ=some (A',σ')):Gives P cx o a w A' σ':=by
 obtain⟨vs,rs,M,hs,rfl,hA⟩:=NZ rfl C;obtain⟨c,ps,rfl,_,f⟩:=Av M;obtain⟨hg,_⟩:=DW M;have d:=FU z Z hu;obtain⟨rfl,r,hr,K,hI,es,X,g,W,E⟩:=(H8 hk).1 (hi.slot s c hg);simp only[AQ] at hs;obtain⟨ws,Y,e⟩:=Ac.1 hs;cases e;obtain⟨hl1,hl2,D⟩:=PM b ps ws Y
 have I:∀j:Nat,∃i:Nat,∀k:Ky,b[j]?=some k->∃(e:MapEntry) (v:PV),es[i]?=some e/\e.key=k.val/\ws[j]?=some v/\Rep G.I w e.val v:=by
  intro j;cases O:b[j]? with
  |none=>exact⟨0,λk h=>by cases h⟩
  |some k=>
   obtain⟨a',v,B,S,N⟩:=D j k O;obtain⟨t,ht,T⟩:=Xw _ _ f j _ B;obtain⟨F,L⟩:=oK (Am ht);obtain⟨k2,x2,ky2,r2,e1,R,h5,⟨h6,es2,Q,i2,e2,h7,h8,h9,V⟩,_⟩:=(IL (by rw[z];exact L)).1 (hi.slot t _ T)
   cases e1;rw[hr] at h5;cases h5;rw[g] at h7;cases h7;rw[S] at R;cases R;exact⟨i2,λk' n=>by cases n;exact⟨e2,v,h8,h9,N,V⟩⟩
 let ix:Nat->Nat:=λj=>(I j).choose
 have U  := λj=>(I j).choose_spec
 let J:Option Nat->Prop:=λx=>x=none
 have l:=Uo (G:=G) (w:=w) (X:=λtg=>tg=.slot s none) K rfl J
 have hev:a.eval (.tmp s)=.map (some r):=hr;rw[hA rfl];refine .inl ⟨.map (some r),w,by simp[execOp,ho,hev],G.shut r J,?_⟩
 rw[hod];refine hi.step _ (some u) _ l (NU hi.base K J) (by rw[Em]) ?_ (λ_ cs hc=>.inl ⟨hc,λ_ h=>by cases h⟩) hi.len hi.abl
 intro t q f;simp only[AOp.wr,Option.toList,Bg,Bn,Dw] at f;obtain⟨H,f⟩:=M8 _ _ _ _ f;rw[Dp] at f
 split at f
 ·cases f
 ·rename_i B;have hts:t≠s:=λe=>B ⟨e,by simp;exact QI hg⟩
  rw[Dp] at f
  split at f
  ·rename_i h;cases f;refine .inr ?_
   rw[h.1,Ch d.2 rfl,Gc _ _ _ (by rw[hi.size];exact d.1)]
   refine⟨.one (.inl (.mapv ix (.inr ⟨rfl,rfl⟩) g hl2 W E (λj k O=>?_) (λj e p M hp=>?_))),trivial⟩
   ·grind
   ·have O:j<b.length:=by have:=(Ad.1 hp).1;omega
    obtain⟨e',v,B,S,N,R⟩:=U j _ (Af O);rw[M] at B;cases B;rw[hp] at N;cases N;exact R.mono l.I l.same
  ·rename_i S;have htu:t≠u:=λe=>S ⟨e,by have:=hi.room;omega⟩
   refine .inl ⟨f,λe=>htu (Option.some.inj e).symm,λj h=>by cases h;exact hts rfl,λd' off e hbx hdd=>?_,λm hm=>?_⟩
   ·cases hdd;rw[hbx] at d;simp[SK.val] at d
   ·obtain⟨F,y⟩:=hm
    have hms:m≠s:=λe=>by
     subst e;rw[z] at y;exact H (TI y)
    refine⟨λe=>?_,λe=>by cases e;exact hms rfl⟩
    cases e;obtain⟨keys',n⟩:=cx.ents t u ⟨F,y⟩;rw[n] at d;simp[SK.val] at d
end
end Go.Abs
