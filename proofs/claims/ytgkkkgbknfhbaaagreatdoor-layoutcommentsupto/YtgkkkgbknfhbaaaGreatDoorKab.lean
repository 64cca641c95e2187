/- A part of the proof: A6 A7 A8 A9 A10 A11 A12 A13 A14. -/
import Derived.Test.YtgkkkgbknfhbaaaGreatDoorKaa
import Derived.Laws.Tables
import Derived.MapKept

set_option linter.all false
namespace Go.Abs
open Go.RowKit
def FW(ro:Option Nat):Fence:={ fn:=λ_=>True,depth:=none,alive:=false,round:=ro }
def jG{ro:Option Nat}{n:Nat}{P:Program}{o:Oper}{a:Act}{w b:World}{K:Act->World->Prop}{Q:Exit->Act->World->Prop}{v:Value}
  (d:∀c,o.op≠.defer c) (f:(execOp a.eval o).run P w=.ok (.value v) b) (e:K (a.put o.dst v) b):o.wpIn (FW ro) n P a w K Q:=by
 refine⟨λ_ _=>trivial,?_⟩
 rw[Oper.semAt_eq _ _ _ d,f];exact e
def oG{ro:Option Nat}{n:Nat}{P:Program}{o:Oper}{a:Act}{w b:World}{K:Act->World->Prop}{Q:Exit->Act->World->Prop}
  (d:∀c,o.op≠.defer c) (f:(execOp a.eval o).run P w=.ok .skip b) (e:K (a.put o.dst undef) b):o.wpIn (FW ro) n P a w K Q:=by
 refine⟨λ_ _=>trivial,?_⟩
 rw[Oper.semAt_eq _ _ _ d,f];exact e
section inv
variable{I:Imm}{bl:Bl}{w:World}{v:Value}
def BF.rep{p:PV}(h:BF I bl w v p)(a:p.Fz=false)(d:∀f fs cs,p≠.func f fs cs)(b:∀vs,p≠.tuple vs)(c:∀cs,p≠.aggr cs:=by simp):Rep I w v p:=by
 cases h with
 |one h=>
  rcases h with h | h
  ·exact h
  ·cases h<;>cases a
 |func _ _ _ _=>grind
 |tuple _ _=>grind
 |aggr _ _=>grind
def BF.Iq{b:Bool}(h:BF I bl w v (.bool b)):v=.bool b:=by
 cases h.rep rfl (by simp) (by simp);rfl
def BF.CJ{k:IntKind}{n:Int}(h:BF I bl w v (.int k n)):v=.int k n:=by
 cases h.rep rfl (by simp) (by simp);rfl
def BF.EC{l:List UInt8}(h:BF I bl w v (.str l)):∃s:ByteArray,v=.string s/\s.data.toList=l:=by
 cases h.rep rfl (by simp) (by simp);grind
def BF.F6(h:BF I bl w v .nils):v=.slice none 0 0:=by
 cases h.rep rfl (by simp) (by simp);rfl
def BF.TE(h:BF I bl w v .nilm):v=.map none:=by
 cases h.rep rfl (by simp) (by simp);rfl
def BF.JS(h:BF I bl w v .empt):∃a,v=.slice (some a) 0 0:=by
 cases h.rep rfl (by simp) (by simp);grind
def BF.TF(h:BF I bl w v .nilf):v=.nilFunc:=by
 cases h.rep rfl (by simp) (by simp);rfl
def BF.Sc{ps:List PV}(h:BF I bl w v (.agg ps)):∃cs:Array Value,v=.agg cs/\cs.size=ps.length/\∀(i:Nat) (p:PV),ps[i]?=some p->Rep I w (cs.getD i undef) p:=by
 cases h.rep rfl (by simp) (by simp) with
 |agg h a=>grind
def BF.Kn{x:PV}(h:BF I bl w v (.vptr x)):∃b off,∃cv:Nat->Value,v=.pointer (some ⟨b,off,none⟩)/\(∀(j:Nat) (p:PV),x.cells[j]?=some p->I b (some (off+j)))/\
  (∀(j:Nat) (p:PV),x.cells[j]?=some p->w.cell? ⟨b,off+j,none⟩=some (cv j))/\(∀(j:Nat) (p:PV),x.cells[j]?=some p->Rep I w (cv j) p):=by
 cases h.rep rfl (by simp) (by simp) with
 |vptr cv a d c=>exact⟨_,_,_,rfl,a,d,c⟩
def BF.JB{id off:Nat}(h:BF I bl w v (.ref id off)):∃b,bl.l[id]?=some b/\v=.pointer (some ⟨b,off,none⟩):=by
 cases h with
 |one h=>
  rcases h with h | h
  ·cases h
  ·cases h with
   |ref h=>grind
def BF.JF{id gen off len size:Nat}(h:BF I bl w v (.arr id gen off len size)):∃b base n cap c a,bl.ab id gen=some (b,base,n)/\len<=cap/\
  base+(off+cap) * size<=n/\(0<cap->c=b/\a=base+off * size)/\v=.slice (some ⟨c,a,none⟩) len cap:=by
 cases h with
 |one h=>
  rcases h with h | h
  ·cases h
  ·cases h with
   |arr h d f e=>grind
def BF.KX{id gen size i off:Nat}(h:BF I bl w v (.aptr id gen size i off)):∃b base n,bl.ab id gen=some (b,base,n)/\v=.pointer (some ⟨b,base+i * size+off,none⟩):=by
 cases h with
 |one h=>
  rcases h with h | h
  ·cases h
  ·cases h with
   |aptr h=>grind
def BF.KM{id:Nat}(h:BF I bl w v (.mref id)):∃b,bl.l[id]?=some b/\v=.map (some b):=by
 cases h with
 |one h=>
  rcases h with h | h
  ·cases h
  ·cases h with
   |mref h=>grind
def BF.WC{ps:List PV}(h:BF I bl w v (.tuple ps)):∃cs:Array Value,v=.tuple cs/\cs.size=ps.length/\∀(i:Nat) (p:PV),ps[i]?=some p->JZ I bl w (cs.getD i undef) p:=by
 cases h with
 |one h=>
  rcases h with h | h
  ·cases h with
   |tuple h a=>exact⟨_,rfl,h,λi p b=>.inl (a i p b)⟩
  ·cases h
 |tuple h a=>grind
def BF.UY{ps:List PV}(h:BF I bl w v (.aggr ps)):∃cs:Array Value,v=.agg cs/\cs.size=ps.length/\∀(i:Nat) (p:PV),ps[i]?=some p->JZ I bl w (cs.getD i undef) p:=by
 cases h with
 |one h=>
  rcases h with h | h
  ·cases h
  ·cases h
 |aggr h a=>grind
def BF.L8{f:FuncId}{a cap:List PV}(h:BF I bl w v (.func f a cap)):∃fs cs:Array Value,v=.func (.func f) fs cs/\fs.size=a.length/\cs.size=cap.length/\
  (∀(i:Nat) (p:PV),a[i]?=some p->JZ I bl w (fs.getD i undef) p)/\(∀(i:Nat) (p:PV),cap[i]?=some p->JZ I bl w (cs.getD i undef) p):=by
 cases h with
 |one h=>
  rcases h with h | h
  ·cases h with
   |func c e g d=>exact⟨_,_,rfl,c,e,λi p b=>.inl (g i p b),λi p b=>.inl (d i p b)⟩
  ·cases h
 |func c e g d=>grind
def BF.FY{b:Bool}{size:Nat}{es:List PV}(h:BF I bl w v (.slice b size es)):∃a len cap,∃cv:Nat->Nat->Value,v=.slice (some a) len cap/\len=es.length/\len<=cap/\(es≠[]->a.spot=none)/\
  (∀(i:Nat) (e:PV),es[i]?=some e->e.cells.length=size)/\
  (∀(i:Nat) (e:PV) (j:Nat) (p:PV),es[i]?=some e->e.cells[j]?=some p->I a.block (some (a.off+i * size+j)))/\
  (∀(i:Nat) (e:PV) (j:Nat) (p:PV),es[i]?=some e->e.cells[j]?=some p->w.cell? ⟨a.block,a.off+i * size+j,none⟩=some (cv i j))/\
  (∀(i:Nat) (e:PV) (j:Nat) (p:PV),es[i]?=some e->e.cells[j]?=some p->Rep I w (cv i j) p):=by
 cases h.rep rfl (by simp) (by simp) with
 |slice cv c l g d k f m=>exact⟨_,_,_,_,rfl,c,l,g,d,k,f,m⟩
end inv
def Rep.Ck{I:Imm}{w:World}{v:Value}{p:PV}(h:Rep I w v p):Rep I w v p.Ck:=by
 cases h<;>(constructor<;>assumption)
def Rep.Ag{I:Imm}{w:World}{v:Value}{p:PV}(h:Rep I w v p):Rep I w v p.Ag:=by
 cases h with
 |agg h j=>
  refine .agg (by grind) λi p m=>?_
  rw[Al] at m;obtain⟨q,o,rfl⟩:=Ac.1 m;exact(j i q o).Ck
 |slice _ a c d e g l f=>exact .slice _ a c d e g l f
 |bool b=>exact .bool b
 |int k n=>exact .int k n
 |str s=>exact .str s
 |nilp=>exact .nilp
 |vptr cv a c d=>exact .vptr _ a c d
 |nils=>exact .nils
 |empt=>exact .empt
 |nili=>exact .nili
 |nilm=>exact .nilm
 |mapv r a c d e g l f=>exact .mapv _ a c d e g l f
 |nilf=>exact .nilf
 |func a c d e=>exact .func a c d e
 |tuple h j=>exact .tuple h j
def Jn.Ag{bl:Bl}{v:Value}{p:PV}(h:Jn bl v p):p.Ag=p:=by cases h<;>rfl
def Jn.Ck{bl:Bl}{v:Value}{p:PV}(h:Jn bl v p):p.Ck=p:=by cases h<;>rfl
def BF.Ag{I:Imm}{bl:Bl}{w:World}{v:Value}{p:PV}(h:BF I bl w v p):BF I bl w v p.Ag:=by
 cases h with
 |one h=>
  rcases h with h | h
  ·exact .one (.inl h.Ag)
  ·exact .one (.inr (by rw[h.Ag];exact h))
 |func d g e f=>exact .func d g e f
 |tuple h b=>exact .tuple h b
 |aggr h b=>
  refine .aggr (by grind) λi p c=>?_
  rw[Al] at c;obtain⟨q,j,rfl⟩:=Ac.1 c;rcases b i q j with a | a
  ·exact .inl a.Ck
  ·refine .inr ?_
   rw[a.Ck];exact a
def Ct{G:Gh}{w:World}{a:Tag}{c:Value}(p:PV):EB G w a c p.Ag:=by
 cases p<;>exact trivial
def U6{G:Gh}{w:World}{a:Tag}{c:Value}(p:PV):EB G w a c p.Ck:=by
 cases p<;>exact trivial
def Di(p:PV):p.Ag.free=p.free:=by cases p<;>rfl
def Eb(p:PV):p.Ag.cells.length=p.cells.length:=by cases p<;>simp[PV.Ag,PV.cells]
def Ta{I:Imm}{w:World}{v:Value}{p:PV}(h:KG v=some p):Rep I w v p:=by
 unfold KG at h
 split at h<;>first | (cases h;constructor) | cases h
def S9{I:Imm}{w:World}:∀{vs:List Value} {ps:List PV},QB vs=some ps->vs.length=ps.length/\∀(i:Nat) (p:PV),ps[i]?=some p->∃v,vs[i]?=some v/\Rep I w v p
 |[],ps,h=>by cases h;grind
 |v::vs,ps,h=>by
  unfold QB at h
  split at h
  ·rename_i q f d c;cases h
   let ⟨e,_⟩:=S9 (I:=I) (w:=w) c
   refine⟨by grind,λi p b=>?_⟩
   cases i with
   |zero=>simp at b;subst b;exact⟨v,rfl,Ta d⟩
   |succ i=>grind
  ·cases h
def Gv{I:Imm}{w:World}{v:Value}{p:PV}(h:Ra v=some p):Rep I w v p:=by
 unfold Ra at h
 split at h
 ·obtain⟨ps,a,rfl⟩:=Ac.1 h
  let ⟨e,b⟩:=S9 (I:=I) (w:=w) a
  refine .agg am λi p c=>?_
  let ⟨v,_,_⟩:=b i p c
  simp_all
 ·exact Ta h
def gq{v:Value}{p:PV}(h:KG v=some p):p.free=true:=by
 unfold KG at h
 split at h<;>first | (cases h;rfl) | cases h
def OO{v:Value}{p:PV}(h:Ra v=some p):p.free=true:=by
 unfold Ra at h
 split at h
 ·obtain⟨ps,_,rfl⟩:=Ac.1 h;rfl
 ·exact gq h
def SK.val:SK->Bool
 |.plain | .imm | .obj=>true
 |_=>false
def Ch{cx:Cx}{G:Gh}{a:Act}{w:World}{t:Nat}{v:PV}(b:(cx.kd t).val=true)(c:v.free=true):
  Ei cx G a w t v↔(BF G.I G.bl w (at' a t) v/\EB G w (.slot t none) (at' a t) v):=by
 unfold Ei;cases h:cx.kd t<;>rw[h] at b<;>simp[SK.val] at b<;>dsimp  <;> (split<;>first | exact Iff.rfl | (simp[PV.free] at c))
def Bq{fi:FI}{cx:Cx}{G:Gh}{a:Act}{w:World}{A:Frm}{i:Sto}(hi:Inv cx G a w A i)(d:∀t,cx.kd t=fi.kind t)
  {x:Operand} {y:CW} (b:Hg fi x=some y) {p:PV} (c:Cc A [y]=some [p]) (l:p.free=true):BF G.I G.bl w (a.eval x) p:=by
 cases x with
 |tmp t=>
  simp  [Hg] at b
  have k:y=.slot t/\(cx.kd t).val=true:=by
   rw[d]
   split at b<;>first | (rename_i j;rw[j];split at b<;>first | (cases b;exact⟨rfl,rfl⟩) | cases b) | cases b
  obtain⟨rfl,h⟩:=k
  simp  [Cc] at c
  split at c
  ·rename_i v vs n m;cases c;exact((Ch h l).1 (hi.slot t _ n)).1
  ·cases c
 |const v=>
  obtain⟨q,e,rfl⟩:=Ac.1 b;simp[Cc] at c;subst c;exact .one (.inl (Gv e))
 |func f=>
  cases b;simp[Cc] at c;subst c;exact .one (.inl (.func rfl rfl (by simp) (by simp)))
 |global g=>cases b
def Av{A:Frm}{y:CW}{ys:List CW}{ps:List PV}(h:Cc A (y::ys)=some ps):∃p a,ps=p::a/\Cc A [y]=some [p]/\Cc A ys=some a:=by
 cases y with
 |slot t=>
  simp  [Cc] at h ⊢
  grind
 |val v=>
  obtain⟨a,b,rfl⟩:=Ac.1 h;exact⟨v,_,rfl,rfl,b⟩
def AX{fi:FI}{x:Operand}{xs:List Operand}{ys:List CW}(h:Ar fi (x::xs)=some ys):∃y zs,ys=y::zs/\Hg fi x=some y/\Ar fi xs=some zs:=by
 simp  [Ar] at h
 grind
def UQ{fi:FI}{cx:Cx}{G:Gh}{a:Act}{w:World}{A:Frm}{k:Sto}(hi:Inv cx G a w A k)(c:∀t,cx.kd t=fi.kind t):
  ∀{xs:List Operand} {ys:List CW},Ar fi xs=some ys->∀{ps:List PV},Cc A ys=some ps->(∀p∈ps,p.free=true)->
   xs.length=ps.length/\∀(i:Nat) (x:Operand) (p:PV),xs[i]?=some x->ps[i]?=some p->BF G.I G.bl w (a.eval x) p
 |[],ys,f,ps,e,_=>by
  cases f;cases e
  grind
 |x::xs,ys,f,ps,e,h=>by
  obtain⟨y,zs,rfl,n,j⟩:=AX f;obtain⟨p,r,rfl,m,l⟩:=Av e
  let ⟨_,_⟩:=UQ hi c j l (λp d=>h p (AP _ d))
  refine⟨by grind,λi o q g d=>?_⟩
  cases i with
  |zero=>simp at g d;subst g d;exact Bq hi c n m (h _ (by simp))
  |succ i=>grind
def JJ(A:Frm)(a:Option Nat)(p:PV):Frm:=match a with | some d=>A.set d (some p) | none=>A
def Inv.M9{cx:Cx}{G G':Gh}{a:Act}{w j:World}{A:Frm}{s:Sto}(h:Inv cx G a w A s)(z:Ext (λ_=>False) G G' w j)(x:Base cx G' j)
  (k:G'.bl=G.bl) (b:Option Nat) (g:∀d,b=some d->d<cx.nt/\(cx.kd d).val=true) {v:Value} {p:PV} (B:p.free=true)
  (C:BF G'.I G'.bl j v p) (D:∀d,b=some d->EB G' j (.slot d none) v p):Inv cx G' (a.put b v) j (JJ A b p) s:=by
 refine h.step _ b v z x ?_ ?_ (λ_ cs f=>.inl ⟨f,by simp⟩) (by rw[k];exact h.len) (by rw[k];exact h.abl)
 ·cases b<;>simp[JJ]
 ·intro t q i;cases b with
  |none=>
   exact .inl ⟨i,by simp,by simp,by simp,by simp⟩
  |some d=>
   obtain⟨n,c⟩:=g d rfl;simp only[JJ,Dp] at i
   split at i
   ·rename_i f;cases i;refine .inr ?_
    rw[f.1,Ch c B,Gc _ _ _ (by rw[h.size];exact n)]
    grind
   ·rename_i f;refine .inl ⟨i,λe=>(λe=>f ⟨e.symm,by have:=h.room;omega⟩) (Option.some.inj e),by simp,λE off e o=>?_,λm u=>⟨?_,id⟩⟩
    ·intro l;have:=Option.some.inj l;subst this;rw[o] at c;simp[SK.val] at c
    ·intro l;have:=Option.some.inj l;subst this;obtain⟨r,y⟩:=cx.ents t d u;rw[y] at c;simp[SK.val] at c
section
variable{P:Program}{pur:FuncId->Bool}{call:Caller}{fi:FI}{cx:Cx}{G:Gh}{a:Act}{w:World}{A A':Frm}{σ M:Sto}
def Gives(P:Program)(cx:Cx)(o:Oper)(a:Act)(w:World)(A':Frm)(M:Sto):Prop:=
 (∃v b,(execOp a.eval o).run P w=.ok (.value v) b/\Sim cx (a.put o.dst v) b A' M) \/
 (∃b,(execOp a.eval o).run P w=.ok .skip b/\Sim cx (a.put o.dst undef) b A' M)
def Kept(d:Option Nat)(a a':Act):Prop:=∀t,d≠some t->at' a' t=at' a t
def Nj(a:Act)(d:Option Nat)(v:Value):Kept d a (a.put d v):=λt h=>GI a d v t h
def Gives.wp{ro:Option Nat}{n:Nat}{o:Oper}{K:Act->World->Prop}{Q:Exit->Act->World->Prop}(h:Gives P cx o a w A' M)(g:∀c,o.op≠.defer c)
  (f:∀a' b,Sim cx a' b A' M->Kept o.dst a a'->K a' b):o.wpIn (FW ro) n P a w K Q:=by
 rcases h with⟨v,b,d,e⟩ | ⟨b,d,e⟩
 ·exact jG g d (f _ _ e (Nj _ _ _))
 ·exact oG g d (f _ _ e (Nj _ _ _))
def Eg(c:∀t,cx.kd t=fi.kind t)(b:cx.nt=fi.nt){d:Option Nat}(h:BK fi d=true):∀t,d=some t->t<cx.nt/\(cx.kd t).val=true:=by
 rintro t rfl
 simp only[BK,Dn,Aj,decide_eq_true_eq] at h;obtain⟨f,e⟩:=h;rw[b,c];refine⟨f,?_⟩
 split at e
 ·rename_i g;rw[g];rfl
 ·cases e
def R7{d:Option Nat}{k:AK}{args:Option (List CW)}{ex:List Nat}{ao:AOp}(h:mk fi d k args ex=some ao):
  ∃b,args=some b/\ao={ dst:=d,k,args:=b,ex }/\BK fi d=true/\ex.all (Dn fi)=true/\ex.all (λt=>d != some t)=true:=by
 unfold mk at h
 split at h
 ·rename_i c;simp only[Aj] at c;obtain⟨b,f,g⟩:=Ac.1 h;exact⟨b,f,g.symm,c.1.1,c.1.2,c.2⟩
 ·cases h
def nT{d:Option Nat}{k:PK}{i:List CW}(h:Cb pur call { dst:=d,k:=.p k,args:=i } A σ=some (A',M)):
  ∃vs b,Cc A i=some vs/\AQ k vs=some b/\M=σ/\∀p,b=[some p]->A'=JJ A d p:=by
 unfold Cb at h;dsimp only at h
 split at h
 ·rename_i vs f;simp only[sem] at h
  split at h
  ·rename_i b g j;obtain⟨l,c,e⟩:=Ac.1 j;cases e;refine⟨vs,b,f,c,?_,?_⟩
   ·split at h
    ·cases h;rfl
    ·split at h<;>cases h;rfl
   ·rintro p rfl
    cases d with
    |none=>
     simp at h;rw[<-h.1];rfl
    |some d=>
     simp[AOp.wr,Dw] at h;rw[<-h.1];rfl
  ·cases h
 ·cases h
def Hz(hi:Inv cx G a w A σ)(i:∀t,cx.kd t=fi.kind t)(h:cx.nt=fi.nt){o:Oper}{k:PK}{j:List CW}(r:BK fi o.dst=true)
  (d:Cb pur call { dst:=o.dst,k:=.p k,args:=j } A σ=some (A',M))
  (b:∀vs e,Cc A j=some vs->AQ k vs=some e->∃p v,e=[some p]/\p.free=true/\(execOp a.eval o).run P w=.ok (.value v) w/\
   BF G.I G.bl w v p/\∀g,EB G w g v p):Gives P cx o a w A' M:=by
 obtain⟨vs,e,l,m,rfl,n⟩:=nT d;obtain⟨p,v,rfl,q,s,c,f⟩:=b vs e l m;rw[n p rfl];exact .inl ⟨v,w,s,G,hi.M9 (Ext.refl _ _ _) hi.base rfl o.dst (Eg i h r) q c (λ_ _=>f _)⟩
def Jh{p:PV}(h:p.flat=true):p.free=true:=by cases p<;>first | rfl | simp[PV.flat] at h
def LV{G:Gh}{w:World}{b:Tag}{v:Value}{p:PV}(h:∀c es,p≠.slice true c es):EB G w b v p:=by
 unfold EB;split
 ·exact absurd rfl (h _ _)
 ·trivial
def X7(hi:Inv cx G a w A σ)(hkd:∀t,cx.kd t=fi.kind t)(hnt:cx.nt=fi.nt){o:Oper}{x:Operand}(ho:o.op=.move x\/o.op=.assign x)
  {az:List CW} (hc:Ar fi [x]=some az) (hd:BK fi o.dst=true) (hrun:Cb pur call { dst:=o.dst,k:=.p .mv,args:=az } A σ=some (A',M)):Gives P cx o a w A' M:=by
 refine Hz hi hkd hnt hd hrun λvs rs he hs=>?_
 obtain⟨y,zs,rfl,hy,hz⟩:=AX hc;cases hz;obtain⟨p,qs,rfl,hp,hq⟩:=Av he;cases hq;simp only[AQ] at hs
 split at hs
 ·rename_i hf;cases hs;refine⟨_,a.eval x,rfl,by rw[Di];exact hf,?_,(Bq hi hkd hy hp hf).Ag,λ_=>Ct p⟩
  rcases ho with ho | ho<;>simp[execOp,ho]
 ·cases hs
def uy(hi:Inv cx G a w A σ)(e:∀t,cx.kd t=fi.kind t)(k:cx.nt=fi.nt){o:Oper}{c x y:Operand}(u:o.op=.pick c x y)
  {r:List CW} (D:Ar fi [c,x,y]=some r) (C:BK fi o.dst=true) (f:Cb pur call { dst:=o.dst,k:=.p .pick,args:=r } A σ=some (A',M)):Gives P cx o a w A' M:=by
 refine Hz hi e k C f λvs H z d=>?_
 obtain⟨E,zs,rfl,l,i⟩:=AX D;obtain⟨F,zs,rfl,n,i⟩:=AX i;obtain⟨J,zs,rfl,q,i⟩:=AX i;cases i;obtain⟨B,s,rfl,m,g⟩:=Av z;obtain⟨K,s,rfl,p,g⟩:=Av g;obtain⟨I,s,rfl,j,g⟩:=Av g;cases g;cases B with
 |bool b=>
  have v:=(Bq hi e l m rfl).Iq;cases b
  ·simp only[AQ] at d;simp only[Bool.false_eq_true,if_false] at d
   split at d
   ·rename_i h;cases d;refine⟨_,a.eval y,rfl,by rw[Di];exact h,?_,(Bq hi e q j h).Ag,λ_=>Ct _⟩
    simp[execOp,u,v,asBool]
   ·cases d
  ·simp only[AQ] at d;simp only[if_true] at d
   split at d
   ·rename_i h;cases d;refine⟨_,a.eval x,rfl,by rw[Di];exact h,?_,(Bq hi e n p h).Ag,λ_=>Ct _⟩
    simp[execOp,u,v,asBool]
   ·cases d
 |_=>simp[AQ] at d
def zK(hi:Inv cx G a w A σ)(d:∀t,cx.kd t=fi.kind t)(f:cx.nt=fi.nt){o:Oper}{t:TypeId}{x:Operand}(n:o.op=.unOp .not t x)
  {g:List CW} (q:Ar fi [x]=some g) (r:BK fi o.dst=true) (c:Cb pur call { dst:=o.dst,k:=.p .not,args:=g } A σ=some (A',M)):Gives P cx o a w A' M:=by
 refine Hz hi d f r c λvs u m e=>?_
 obtain⟨y,zs,rfl,i,l⟩:=AX q;cases l;obtain⟨p,s,rfl,h,k⟩:=Av m;cases k;cases p with
 |bool b=>
  have j:=(Bq hi d i h rfl).Iq;simp only[AQ] at e;cases e;exact⟨_,.bool (!b),rfl,rfl,by simp[execOp,n,j,Op.unary],.one (.inl (.bool _)),λ_=>trivial⟩
 |_=>simp[AQ] at e
def Aq1(hi:Inv cx G a w A σ)(g:∀t,cx.kd t=fi.kind t)(j:cx.nt=fi.nt){o:Oper}{i:Nat}{x:Operand}(r:o.op=.extract x i)
  {k:List CW} (D:Ar fi [x]=some k) (s:BK fi o.dst=true) (b:Cb pur call { dst:=o.dst,k:=.p (.ext i),args:=k } A σ=some (A',M)):Gives P cx o a w A' M:=by
 refine Hz hi g j s b λvs F u c=>?_
 obtain⟨y,zs,rfl,B,m⟩:=AX D;cases m;obtain⟨p,H,rfl,n,d⟩:=Av u;cases d;cases p with
 |tuple ps=>
  obtain⟨cs,l,v,E⟩:=(Bq hi g B n rfl).WC;simp only[AQ] at c
  split at c
  ·rename_i C;obtain⟨q,d,e⟩:=Ac.1 c;cases e;have z:=(Ad.1 d).1;have f:i<cs.size:=am
   refine⟨_,cs.getD i undef,rfl,?_,?_,(BF.one (E i q d)).Ag,λ_=>Ct q⟩
   ·rw[Di];have:q∈ps:=Am d;have:=Au.1 C q this;exact this
   ·simp[execOp,r,l,Instr.extract,f,Array.getD]
  ·cases c
 |_=>simp[AQ] at c
def Aq7(hi:Inv cx G a w A σ)(c:∀t,cx.kd t=fi.kind t)(m:cx.nt=fi.nt){o:Oper}{x:Operand}(l:o.op=.nilCheck x)
  {n:List CW} (s:Ar fi [x]=some n) (z:BK fi o.dst=true) (g:Cb pur call { dst:=o.dst,k:=.p .chk,args:=n } A σ=some (A',M)):Gives P cx o a w A' M:=by
 refine Hz hi c m z g λvs B v d=>?_
 obtain⟨y,zs,rfl,j,u⟩:=AX s;cases u;obtain⟨p,D,rfl,k,r⟩:=Av v;cases r;cases p with
 |vptr q=>
  have h:=Bq hi c j k rfl;obtain⟨b,off,cv,e,_⟩:=h.Kn;simp only[AQ] at d;cases d;exact⟨_,a.eval x,rfl,rfl,by simp[execOp,l,e],h,λ_=>trivial⟩
 |ref id off=>
  have h:=Bq hi c j k rfl;obtain⟨b,_,e⟩:=h.JB;simp only[AQ] at d;cases d;exact⟨_,a.eval x,rfl,rfl,by simp[execOp,l,e],h,λ_=>trivial⟩
 |aptr id gen size i off=>
  have h:=Bq hi c j k rfl;obtain⟨b,_,_,_,e⟩:=h.KX;simp only[AQ] at d;cases d;exact⟨_,a.eval x,rfl,rfl,by simp[execOp,l,e],h,λ_=>trivial⟩
 |func f fs cs=>
  have h:=Bq hi c j k rfl;obtain⟨vs,C,e,_⟩:=h.L8;simp only[AQ] at d;cases d;exact⟨_,a.eval x,rfl,rfl,by simp[execOp,l,e],h,λ_=>trivial⟩
 |_=>simp[AQ] at d
def Aq4(hi:Inv cx G a w A σ)(b:∀t,cx.kd t=fi.kind t)(f:cx.nt=fi.nt){o:Oper}{s t:TypeId}{k l:IntKind}{x:Operand}(r:o.op=.convert s t x)
  (d:P.underlying s=some (.int l)) (C:P.underlying t=some (.int k))
  {g:List CW} (B:Ar fi [x]=some g) (D:BK fi o.dst=true) (c:Cb pur call { dst:=o.dst,k:=.p (.cvt k),args:=g } A σ=some (A',M)):Gives P cx o a w A' M:=by
 refine Hz hi b f D c λvs E v e=>?_
 obtain⟨y,zs,rfl,q,i⟩:=AX B;cases i;obtain⟨p,F,rfl,u,m⟩:=Av v;cases m;cases p with
 |int j n=>
  have z:=(Bq hi b q u rfl).CJ;simp only[AQ] at e;cases e;exact⟨_,.int k (k.wrap n),rfl,rfl,by simp[execOp,r,z,convert,underlying,d,C,Conv.intToInt],.one (.inl (.int _ _)),λ_=>trivial⟩
 |_=>simp[AQ] at e
end
section
variable{P:Program}{pur:FuncId->Bool}{call:Caller}{fi:FI}{cx:Cx}{G:Gh}{a:Act}{w:World}{A A':Frm}{σ σ':Sto}
def ic{xs:List Operand}{b:List CW}(d:Ar fi xs=some b){p:PV}(g:Cc A b=some [p]):
  ∃x y,xs=[x]/\b=[y]/\Hg fi x=some y/\Cc A [y]=some [p]:=by
 cases xs with
 |nil=>cases d;cases g
 |cons x xs=>
  obtain⟨y,zs,rfl,i,f⟩:=AX d;obtain⟨q,l,e,j,c⟩:=Av g;cases e;cases xs with
  |nil=>cases f;exact⟨x,y,rfl,rfl,i,j⟩
  |cons k xs=>
   obtain⟨m,h,rfl,_,_⟩:=AX f;obtain⟨_,_,e,_,_⟩:=Av c;cases e
def XH{xs:List Operand}{f:List CW}(h:Ar fi xs=some f){p q:PV}(g:Cc A f=some [p,q]):
  ∃x c y b,xs=[x,c]/\f=[y,b]/\Hg fi x=some y/\Hg fi c=some b/\Cc A [y]=some [p]/\Cc A [b]=some [q]:=by
 cases xs with
 |nil=>cases h;cases g
 |cons x xs=>
  obtain⟨y,zs,rfl,i,l⟩:=AX h;obtain⟨_,n,e,k,d⟩:=Av g;cases e;obtain⟨c,b,rfl,rfl,m,j⟩:=ic l d;exact⟨x,c,y,b,rfl,rfl,i,m,k,j⟩
def Rz(b:BinOp)(t:TypeId)(x y:Operand)(k c:IntKind)(n m:Int):(eqGuard b t x y (.int k n) (.int c m)).run P w=.ok () w:=by
 cases b<;>rfl
def Ry(b:BinOp)(t:TypeId)(x y:Operand)(s c:ByteArray):(eqGuard b t x y (.string s) (.string c)).run P w=.ok () w:=by
 cases b<;>rfl
def Qp(b:BinOp)(t:TypeId)(x y:Operand)(s c:Bool):(eqGuard b t x y (.bool s) (.bool c)).run P w=.ok () w:=by
 cases b<;>rfl
def Qo(b:BinOp)(t:TypeId)(x y:Operand)(f:Fn)(vs c:Array Value):(eqGuard b t x y (.func f vs c) .nilFunc).run P w=.ok () w:=by
 cases b<;>rfl
def Qn(b:BinOp)(t:TypeId)(x y:Operand):(eqGuard b t x y .nilFunc .nilFunc).run P w=.ok () w:=by
 cases b<;>rfl
def UI(b:BinOp)(t:TypeId)(k c:IntKind)(n m:Int):Go.binOp b t (.int k n) (.int c m)=Go.binOp b 0 (.int k n) (.int c m):=by
 cases b<;>rfl
def uT{b:BinOp}{t:TypeId}{k:IntKind}{n m:Int}{p:PV}(h:BqE b k n m=some p):∃v,(Go.binOp b t (.int k n) (.int k m)).run P w=.ok v w/\Rep G.I w v p/\∀c es,p≠.slice true c es:=by
 have gen:(match Go.binOp b 0 (.int k n) (.int k m) with | .pure (.int d n)=>some (PV.int d n) | _=>none)=some p->∃v,(Go.binOp b t (.int k n) (.int k m)).run P w=.ok v w/\Rep G.I w v p/\∀c es,p≠.slice true c es:=by
  intro h;rw[UI]
  split at h
  ·rename_i d f e;cases h;rw[e];exact⟨_,rfl,.int _ _,by simp⟩
  ·cases h
 cases b<;>simp only[BqE] at h<;>first
  |exact gen h
  |(cases h;exact⟨.int _ _,by simp[Go.binOp,Op.intArith];rfl,.int _ _,by simp⟩)
  |(cases h;exact⟨.int _ _,by simp[Go.binOp,Op.intArith],.int _ _,by simp⟩)
  |(cases h;exact⟨.bool _,by simp[Go.binOp,Op.intCmp];rfl,.bool _,by simp⟩)
  |(cases h;exact⟨.bool _,by simp[Go.binOp,Op.intCmp],.bool _,by simp⟩)
def data_append(x y:ByteArray):(x++y).data.toList=x.data.toList++y.data.toList:=by
 simp
def uS{b:BinOp}{t:TypeId}{x y:ByteArray}{p:PV}(h:pQ b x.data.toList y.data.toList=some p):∃v,(Go.binOp b t (.string x) (.string y)).run P w=.ok v w/\Rep G.I w v p/\∀e es,p≠.slice true e es:=by
 cases b with
 |add=>
  simp only[pQ] at h
  split at h
  ·rename_i d;cases h;refine⟨.string (x++y),?_,?_,by simp⟩
   ·have f:=Lib.size_eq x;have g:=Lib.size_eq y
    have:¬(((x.size+y.size:Nat):Int) > IntKind.i64.max):=by
     unfold CL at d;have:IntKind.i64.max=9223372036854775807:=by decide
     rw[this];omega
    simp only[Go.binOp,Op.stringOp];rw[if_neg this];rfl
   ·rw[<-data_append];exact .str _
  ·cases h
 |eql=>cases h;exact⟨.bool _,by simp only[Go.binOp,Op.stringOp,Df];rfl,.bool _,by simp⟩
 |neq=>cases h;exact⟨.bool _,by simp only[Go.binOp,Op.stringOp,Df];rfl,.bool _,by simp⟩
 |lss=>cases h;exact⟨.bool _,by simp only[Go.binOp,Op.stringOp,Df];rfl,.bool _,by simp⟩
 |leq=>cases h;exact⟨.bool _,by simp only[Go.binOp,Op.stringOp,Df];rfl,.bool _,by simp⟩
 |gtr=>cases h;exact⟨_,by simp only[Go.binOp,Op.stringOp,Df];rfl,.bool _,by simp⟩
 |geq=>cases h;exact⟨.bool _,by simp only[Go.binOp,Op.stringOp,Df];rfl,.bool _,by simp⟩
 |_=>simp[pQ] at h
def run_equal_bool{t:TypeId}(b:P.underlying t=some .bool)(x y:Bool):(Op.equal t (.bool x) (.bool y)).run P w=.ok (x==y) w:=by
 show(Op.equalIn (9999+1) t (.bool x) (.bool y)).run P w=_;generalize 9999=d;simp[Op.equalIn,underlying,b]
def MX{t:TypeId}{ps c:Array TypeId}{e:Bool}(b:P.underlying t=some (.func ps c e))(f:Fn)(vs g:Array Value):(Op.equal t (.func f vs g) .nilFunc).run P w=.ok false w:=by
 show(Op.equalIn (9999+1) t _ _).run P w=_;generalize 9999=d;simp[Op.equalIn,underlying,b]
def MW{t:TypeId}{ps c:Array TypeId}{e:Bool}(b:P.underlying t=some (.func ps c e)):(Op.equal t .nilFunc .nilFunc).run P w=.ok true w:=by
 show(Op.equalIn (9999+1) t _ _).run P w=_;generalize 9999=d;simp[Op.equalIn,underlying,b]
def binOp_eql{t:TypeId}{x y:Value}{b:Bool}(h:(Op.equal t x y).run P w=.ok b w)(c:Go.binOp .eql t x y=(do pure (.bool (<-Op.equal t x y)))):(Go.binOp .eql t x y).run P w=.ok (.bool b) w:=by
 rw[c];simp only[Sem.run_bind,h,Result.andThen_ok,Sem.run_pure]
def binOp_neq{t:TypeId}{x y:Value}{b:Bool}(h:(Op.equal t x y).run P w=.ok b w)(c:Go.binOp .neq t x y=(do pure (.bool (!(<-Op.equal t x y))))):(Go.binOp .neq t x y).run P w=.ok (.bool !b) w:=by
 rw[c];simp only[Sem.run_bind,h,Result.andThen_ok,Sem.run_pure]
def uU{b:BinOp}{t:TypeId}(c:P.underlying t=some .bool){x y:Bool}{p:PV}(h:BqF b x y=some p):∃v,(Go.binOp b t (.bool x) (.bool y)).run P w=.ok v w/\Rep G.I w v p/\∀d es,p≠.slice true d es:=by
 cases b with
 |eql=>cases h;exact⟨_,binOp_eql (run_equal_bool c x y) rfl,.bool _,by simp⟩
 |neq=>cases h;exact⟨_,binOp_neq (run_equal_bool c x y) rfl,.bool _,by simp⟩
 |_=>simp[BqF] at h
def RU(hi:Inv cx G a w A σ)(d:∀t,cx.kd t=fi.kind t)(X:cx.nt=fi.nt){o:Oper}{D:BinOp}{t yt:TypeId}{x y:Operand}(ho:o.op=.binOp D t x y yt)
  {c:Nat} (M:c=1->P.underlying t=some .bool) (H:c=2->∃ps Y v,P.underlying t=some (.func ps Y v))
  {Z:List CW} (hc:Ar fi [x,y]=some Z) (hd:BK fi o.dst=true) (I:Cb pur call { dst:=o.dst,k:=.p (.bin D c),args:=Z } A σ=some (A',σ')):Gives P cx o a w A' σ':=by
 refine Hz hi d X hd I λvs Y he K=>?_
 obtain⟨y1,zs,rfl,r,U⟩:=AX hc;obtain⟨y2,zs,rfl,u,U⟩:=AX U;cases U;obtain⟨p1,qs,rfl,j,O⟩:=Av he;obtain⟨J,qs,rfl,z,O⟩:=Av O;cases O
 have L:∀{p:PV},(eqGuard D t x y (a.eval x) (a.eval y)).run P w=.ok () w->(∃v,(Go.binOp D t (a.eval x) (a.eval y)).run P w=.ok v w/\Rep G.I w v p/\∀R es,p≠.slice true R es)->p.free=true->
   ∃v,(execOp a.eval o).run P w=.ok (.value v) w/\BF G.I G.bl w v p/\∀T,EB G w T v p:=by
  rintro p S ⟨v,N,i,F⟩ hf
  exact⟨v,by simp[execOp,ho,S,N],.one (.inl i),λ_=>LV F⟩
 simp only[AQ] at K
 split at K
 case isFalse=>cases K
 rename_i E;obtain⟨p,g,e⟩:=Ac.1 K;cases e
 suffices h:(eqGuard D t x y (a.eval x) (a.eval y)).run P w=.ok () w/\∃v,(Go.binOp D t (a.eval x) (a.eval y)).run P w=.ok v w/\Rep G.I w v p/\(∀R es,p≠.slice true R es) by
  obtain⟨S,v,N,i,F⟩:=h;have q:p.free=true:=by cases i<;>rfl
  obtain⟨v,h1,h2,h3⟩:=L S ⟨v,N,i,F⟩ q;exact⟨_,v,rfl,q,h1,h2,h3⟩
 cases p1 with
 |int k n=>
  cases J with
  |int k' m=>
   have C:=(Bq hi d r j rfl).CJ;have B:=(Bq hi d u z rfl).CJ;simp only[RH] at g;rw[C,B];refine⟨Rz ..,?_⟩
   split at g
   ·split at g
    ·rename_i k2 n2 V;cases g;exact⟨.int k2 n2,by rw[UI,V];rfl,.int _ _,by simp⟩
    ·cases g
   ·split at g
    ·rename_i hk;subst hk;exact uT g
    ·cases g
  |_=>simp[RH] at g
 |str l=>
  cases J with
  |str l'=>
   obtain⟨s1,C,rfl⟩:=(Bq hi d r j rfl).EC;obtain⟨s2,B,rfl⟩:=(Bq hi d u z rfl).EC;simp only[RH] at g;rw[C,B];exact⟨Ry ..,uS g⟩
  |_=>simp[RH] at g
 |bool b=>
  cases J with
  |bool b'=>
   have C:=(Bq hi d r j rfl).Iq;have B:=(Bq hi d u z rfl).Iq;have W:=M (by simpa [zh] using E)
   simp only[RH] at g;rw[C,B];exact⟨Qp ..,uU W g⟩
  |_=>simp[RH] at g
 |func f fs cs=>
  cases J with
  |nilf=>
   obtain⟨vs,ws,C,_⟩:=(Bq hi d r j rfl).L8;have B:=(Bq hi d u z rfl).TF;obtain⟨ps,Q,va,s⟩:=H (by simpa [zh] using E)
   rw[C,B];refine⟨Qo ..,?_⟩
   cases D<;>simp[RH] at g<;>subst g
   ·exact⟨.bool false,binOp_eql (MX s ..) rfl,.bool _,by simp⟩
   ·exact⟨.bool true,binOp_neq (MX s ..) rfl,.bool _,by simp⟩
  |_=>simp[RH] at g
 |nilf=>
  cases J with
  |nilf=>
   have C:=(Bq hi d r j rfl).TF;have B:=(Bq hi d u z rfl).TF;obtain⟨ps,Q,va,s⟩:=H (by simpa [zh] using E)
   rw[C,B];refine⟨Qn ..,?_⟩
   cases D<;>simp[RH] at g<;>subst g
   ·exact⟨.bool true,binOp_eql (MW s) rfl,.bool _,by simp⟩
   ·exact⟨.bool false,binOp_neq (MW s) rfl,.bool _,by simp⟩
  |_=>simp[RH] at g
 |_=>simp[RH] at g
end
section
variable{P:Program}{pur:FuncId->Bool}{call:Caller}{fi:FI}{cx:Cx}{G:Gh}{a:Act}{w:World}{A A':Frm}{σ T:Sto}
def F5{o:Oper}{c:Call}{b:Builtin}(f:o.op=.call c)(e:c.callee=.builtin b):
  ∃d,(execOp a.eval o).run P w=(builtin b c.argTypes o.type d (c.args.map a.eval)).run P w:=by
 simp only[execOp,f,resolve,e,invoke,Sem.run_bind,Sem.run_pure,Result.andThen_ok];exact⟨_,rfl⟩
def Ub(hi:Inv cx G a w A σ)(b:∀t,cx.kd t=fi.kind t)(g:cx.nt=fi.nt){o:Oper}{k:PK}{xs:List Operand}{j:List CW}(D:BK fi o.dst=true)
  (c:Cb pur call { dst:=o.dst,k:=.p k,args:=j } A σ=some (A',T)) (E:Ar fi xs=some j)
  {V:PV->PV->Option PV} (h:∀vs f,AQ k vs=some f->∃p q r,vs=[p,q]/\V p q=some r/\f=[some r])
  (d:∀x y p q r,xs=[x,y]->V p q=some r->(p.free=true->BF G.I G.bl w (a.eval x) p)->(q.free=true->BF G.I G.bl w (a.eval y) q)->
   r.free=true/\∃v,(execOp a.eval o).run P w=.ok (.value v) w/\BF G.I G.bl w v r/\∀i,EB G w i v r):Gives P cx o a w A' T:=by
 refine Hz hi b g D c λvs f z C=>?_
 obtain⟨p,q,r,rfl,F,rfl⟩:=h vs f C;obtain⟨x,l,y,J,rfl,rfl,I,m,n,s⟩:=XH E z;obtain⟨e,v,H,B,u⟩:=d x l p q r rfl F (λe=>Bq hi b I n e) (λe=>Bq hi b m s e)
 exact⟨r,v,rfl,e,H,B,u⟩
def jP(hi:Inv cx G a w A σ)(d:∀t,cx.kd t=fi.kind t)(h:cx.nt=fi.nt){o:Oper}{k:PK}{xs:List Operand}{j:List CW}(C:BK fi o.dst=true)
  (b:Cb pur call { dst:=o.dst,k:=.p k,args:=j } A σ=some (A',T)) (z:Ar fi xs=some j)
  {V:PV->Option PV} (f:∀vs e,AQ k vs=some e->∃p r,vs=[p]/\V p=some r/\e=[some r])
  (c:∀x p r,xs=[x]->V p=some r->(p.free=true->BF G.I G.bl w (a.eval x) p)->
   r.free=true/\∃v,(execOp a.eval o).run P w=.ok (.value v) w/\BF G.I G.bl w v r/\∀i,EB G w i v r):Gives P cx o a w A' T:=by
 refine Hz hi d h C b λvs e n m=>?_
 obtain⟨p,r,rfl,B,rfl⟩:=f vs e m;obtain⟨x,y,rfl,rfl,l,D⟩:=ic z n;obtain⟨g,v,s,q,u⟩:=c x p r rfl B (λg=>Bq hi d l D g)
 exact⟨r,v,rfl,g,s,q,u⟩
def Qi{k:PK}{V:PV->PV->Option PV}(g:∀p q,AQ k [p,q]=(V p q).map λv=>[some v])(i:AQ k []=none)(c:∀p,AQ k [p]=none)(d:∀p q r l,AQ k (p::q::r::l)=none):
  ∀vs b,AQ k vs=some b->∃p q r,vs=[p,q]/\V p q=some r/\b=[some r]:=by
 intro vs b h
 match vs with
 |[]=>rw[i] at h;cases h
 |[p]=>rw[c] at h;cases h
 |[p,q]=>
  rw[g] at h;obtain⟨r,f,e⟩:=Ac.1 h;exact⟨p,q,r,rfl,f,e.symm⟩
 |p::q::r::l=>rw[d] at h;cases h
def ZT{k:PK}{V:PV->Option PV}(c:∀p,AQ k [p]=(V p).map λv=>[some v])(g:AQ k []=none)(d:∀p q l,AQ k (p::q::l)=none):
  ∀vs b,AQ k vs=some b->∃p r,vs=[p]/\V p=some r/\b=[some r]:=by
 intro vs b h
 match vs with
 |[]=>rw[g] at h;cases h
 |[p]=>
  rw[c] at h;obtain⟨r,f,e⟩:=Ac.1 h;exact⟨p,r,rfl,f,e.symm⟩
 |p::q::l=>rw[d] at h;cases h
def lD(hi:Inv cx G a w A σ)(B:∀t,cx.kd t=fi.kind t)(v:cx.nt=fi.nt){o:Oper}{c:Call}(I:o.op=.call c)(K:c.callee=.builtin .len){st:Bool}
  (g:(st=true/\c.argTypes.toList.map P.underlying=[some .string])\/(st=false/\∃e,c.argTypes.toList.map P.underlying=[some (.slice e)]))
  {C:List CW} (L:Ar fi c.args.toList=some C) (D:BK fi o.dst=true) (m:Cb pur call { dst:=o.dst,k:=.p (.len st),args:=C } A σ=some (A',T)):Gives P cx o a w A' T:=by
 refine jP hi B v D m L (ZT (V:=fH st) (λ_=>rfl) rfl (λ_ _ _=>rfl)) λx p r E d k=>?_
 have y:c.args=#[x]:=by apply Cw.1;simpa using E
 obtain⟨u,i⟩:=F5 (P:=P) (w:=w) (a:=a) I K;rw[y] at i
 have j:∃t,c.argTypes=#[t]/\((st=true/\P.underlying t=some .string)\/(st=false/\∃e,P.underlying t=some (.slice e))):=by
  rcases g with⟨h,g⟩ | ⟨h,e,g⟩<;>(
   cases q:c.argTypes.toList with
   |nil=>rw[q] at g;simp at g
   |cons t r=>cases r with
    |nil=>
     rw[q] at g;simp at g;refine⟨t,by apply Cw.1;simpa using q,?_⟩
     first | exact .inl ⟨h,g⟩ | exact .inr ⟨h,e,g⟩
    |cons _ _=>rw[q] at g;simp at g)
 obtain⟨t,j,f⟩:=j;clear g;rw[j] at i;cases p with
 |str l=>
  obtain⟨s,e,rfl⟩:=(k rfl).EC;simp only[fH] at d;rcases f with⟨rfl,f⟩ | ⟨rfl,_⟩
  ·simp at d;subst d;refine⟨rfl,.int .i64 s.data.toList.length,?_,.one (.inl (.int _ _)),λ_=>trivial⟩
   rw[i,<-Lib.size_eq];simp[builtin,Builtin.len_,e,underlying,f,goInt]
  ·simp at d
 |slice J F es=>
  obtain⟨b,len,cap,cv,e,M,_⟩:=(k rfl).FY;simp only[fH] at d;rcases f with⟨rfl,_⟩ | ⟨rfl,z,f⟩
  ·simp at d
  ·simp at d;subst d;refine⟨rfl,.int .i64 es.length,?_,.one (.inl (.int _ _)),λ_=>trivial⟩
   rw[i];simp[builtin,Builtin.len_,e,underlying,f,goInt,M]
 |arr id gen off len F=>
  obtain⟨b,base,n,cap,Q,O,_,_,_,_,e⟩:=(k rfl).JF;simp only[fH] at d;rcases f with⟨rfl,_⟩ | ⟨rfl,z,f⟩
  ·simp at d
  ·simp at d;subst d;refine⟨rfl,.int .i64 len,?_,.one (.inl (.int _ _)),λ_=>trivial⟩
   rw[i];simp[builtin,Builtin.len_,e,underlying,f,goInt]
 |empt=>
  obtain⟨N,e⟩:=(k rfl).JS;simp only[fH] at d;rcases f with⟨rfl,_⟩ | ⟨rfl,z,f⟩
  ·simp at d
  ·simp at d;subst d;refine⟨rfl,.int .i64 0,?_,.one (.inl (.int _ _)),λ_=>trivial⟩
   rw[i];simp[builtin,Builtin.len_,e,underlying,f,goInt]
 |nils=>
  have e:=(k rfl).F6;simp only[fH] at d;rcases f with⟨rfl,_⟩ | ⟨rfl,z,f⟩
  ·simp at d
  ·simp at d;subst d;refine⟨rfl,.int .i64 0,?_,.one (.inl (.int _ _)),λ_=>trivial⟩
   rw[i];simp[builtin,Builtin.len_,e,underlying,f,goInt]
 |_=>simp[fH] at d
def uE(hi:Inv cx G a w A σ)(m:∀t,cx.kd t=fi.kind t)(k:cx.nt=fi.nt){o:Oper}{c:Call}(y:o.op=.call c)(v:c.callee=.builtin .cap)
  (b:∃e,c.argTypes.toList.map P.underlying=[some (.slice e)])
  {q:List CW} (B:Ar fi c.args.toList=some q) (C:BK fi o.dst=true) (f:Cb pur call { dst:=o.dst,k:=.p .cap0,args:=q } A σ=some (A',T)):Gives P cx o a w A' T:=by
 refine jP hi m k C f B (ZT (V:=λx=>match x with | .nils | .empt=>some (.int .i64 0) | _=>none) (λp=>by cases p<;>rfl) rfl (λ_ _ _=>rfl)) λx p r z j s=>?_
 have l:c.args=#[x]:=by apply Cw.1;simpa using z
 obtain⟨h,i⟩:=F5 (P:=P) (w:=w) (a:=a) y v;rw[l] at i;obtain⟨u,b⟩:=b
 have d:∃t,c.argTypes=#[t]/\P.underlying t=some (.slice u):=by
  cases g:c.argTypes.toList with
  |nil=>rw[g] at b;simp at b
  |cons t r=>cases r with
   |nil=>
    rw[g] at b;simp at b;exact⟨t,by apply Cw.1;simpa using g,b⟩
   |cons _ _=>rw[g] at b;simp at b
 obtain⟨t,d,n⟩:=d;rw[d] at i;cases p with
 |nils=>
  have e:=(s rfl).F6;cases j;refine⟨rfl,.int .i64 0,?_,.one (.inl (.int _ _)),λ_=>trivial⟩
  rw[i];simp[builtin,Builtin.cap_,e,underlying,n,goInt]
 |empt=>
  obtain⟨D,e⟩:=(s rfl).JS;cases j;refine⟨rfl,.int .i64 0,?_,.one (.inl (.int _ _)),λ_=>trivial⟩
  rw[i];simp[builtin,Builtin.cap_,e,underlying,n,goInt]
 |_=>simp at j
def zQ(hi:Inv cx G a w A σ)(f:∀t,cx.kd t=fi.kind t)(h:cx.nt=fi.nt){o:Oper}{c:Call}(B:o.op=.call c)(l:c.callee=.builtin .min)
  {i:List CW} (D:Ar fi c.args.toList=some i) (E:BK fi o.dst=true) (b:Cb pur call { dst:=o.dst,k:=.p .min,args:=i } A σ=some (A',T)):Gives P cx o a w A' T:=by
 refine Ub hi f h E b D (Qi (V:=wF) (λ_ _=>rfl) rfl (λ_=>rfl) (λ_ _ _ _=>rfl)) λx y p q r C e u s=>?_
 have g:c.args=#[x,y]:=by apply Cw.1;simpa using C
 obtain⟨d,j⟩:=F5 (P:=P) (w:=w) (a:=a) B l;rw[g] at j;cases p with
 |int k n=>cases q with
  |int F m=>
   simp only[wF] at e;cases e;have v:=(u rfl).CJ;have z:=(s rfl).CJ;exact⟨rfl,.int k (if m<n then m else n),by rw[j];simp[builtin,Builtin.min_,Builtin.min2,v,z],.one (.inl (.int _ _)),λ_=>trivial⟩
  |_=>simp[wF] at e
 |_=>simp[wF] at e
def zR(hi:Inv cx G a w A σ)(f:∀t,cx.kd t=fi.kind t)(h:cx.nt=fi.nt){o:Oper}{c:Call}(B:o.op=.call c)(l:c.callee=.builtin .max)
  {i:List CW} (D:Ar fi c.args.toList=some i) (E:BK fi o.dst=true) (b:Cb pur call { dst:=o.dst,k:=.p .max,args:=i } A σ=some (A',T)):Gives P cx o a w A' T:=by
 refine Ub hi f h E b D (Qi (V:=wH) (λ_ _=>rfl) rfl (λ_=>rfl) (λ_ _ _ _=>rfl)) λx y p q r C e u s=>?_
 have g:c.args=#[x,y]:=by apply Cw.1;simpa using C
 obtain⟨d,j⟩:=F5 (P:=P) (w:=w) (a:=a) B l;rw[g] at j;cases p with
 |int k n=>cases q with
  |int F m=>
   simp only[wH] at e;cases e;have v:=(u rfl).CJ;have z:=(s rfl).CJ;exact⟨rfl,.int k (if n<m then m else n),by rw[j];simp[builtin,Builtin.max_,Builtin.max2,v,z],.one (.inl (.int _ _)),λ_=>trivial⟩
  |_=>simp[wH] at e
 |_=>simp[wH] at e
def uw(hi:Inv cx G a w A σ)(j:∀t,cx.kd t=fi.kind t)(h:cx.nt=fi.nt){o:Oper}{t:TypeId}{x y:Operand}(v:o.op=.index t x y)(I:P.underlying t=some .string)
  {m:List CW} (H:Ar fi [x,y]=some m) (L:BK fi o.dst=true) (d:Cb pur call { dst:=o.dst,k:=.p .sidx,args:=m } A σ=some (A',T)):Gives P cx o a w A' T:=by
 refine Ub hi j h L d H (Qi (V:=WH) (λ_ _=>rfl) rfl (λ_=>rfl) (λ_ _ _ _=>rfl)) λM N p q r u c z B=>?_
 cases u;cases p with
 |str l=>cases q with
  |int k i=>
   obtain⟨s,C,rfl⟩:=(z rfl).EC;have J:=(B rfl).CJ;simp only[WH] at c
   split at c
   ·rename_i K;obtain⟨b,n,rfl⟩:=Ac.1 c;refine⟨rfl,.int .u8 b.toNat,?_,.one (.inl (.int _ _)),λ_=>trivial⟩
    have F:=(Ad.1 n).1;have E:=Lib.size_eq s;have f:i.toNat<s.size:=am
    have e:s[i.toNat]?=some b:=by
     rw[getElem?_pos s i.toNat f]
     have:=(Ad.1 n).2;rw[<-this];rfl
    simp[execOp,v,Instr.index,C,J,asIntOf,underlying,I,K,e]
   ·cases c
  |_=>simp[WH] at c
 |_=>simp[WH] at c
end
section
variable{P:Program}{pur:FuncId->Bool}{call:Caller}{fi:FI}{cx:Cx}{G:Gh}{a:Act}{w:World}{A A':Frm}{σ σ':Sto}
def Jn.AU2{bl:Bl}{v:Value}{p:PV}(h:Jn bl v p):p.flat=false:=by cases h<;>rfl
def Jn.TC{bl:Bl}{v:Value}{p:PV}(h:Jn bl v p):p.KO=false:=by cases h<;>rfl
def FM(b off n:Nat):Addr.add ⟨b,off,none⟩ n=⟨b,off+n,none⟩:=by
 unfold Addr.add;grind
def BF.flat{I:Imm}{bl:Bl}{v:Value}{p:PV}(h:BF I bl w v p)(b:p.flat=true):Rep I w v p:=by
 cases h with
 |one h=>
  rcases h with h | h
  ·exact h
  ·rw[h.AU2] at b;cases b
 |@func f fs cs e cap g k d l=>
  simp  [PV.flat,Aj,Au] at b
  refine .func g k (λi p c=>?_) (λi p c=>?_)
  ·rcases d i p c with h | h
   ·exact h
   ·have:=b.1 _ (Am c);rw[h.TC] at this;cases this
  ·rcases l i p c with h | h
   ·exact h
   ·have:=b.2 _ (Am c);rw[h.TC] at this;cases this
 |tuple h j=>
  simp only[PV.flat,Au] at b;refine .tuple h λi p c=>?_
  rcases j i p c with h | h
  ·exact h
  ·have:=b _ (Am c);rw[h.TC] at this;cases this
 |aggr _ _=>cases b
def BF.AKF{I:Imm}{bl:Bl}{v:Value}{p:PV}(h:BF I bl w v p)(b:(p.flat||p.Fz)=true):JZ I bl w v p:=by
 rcases Bool.or_eq_true_iff.1 b with b | b
 ·exact .inl (h.flat b)
 ·cases h with
  |one h=>exact h
  |func _ _ _ _=>cases b
  |tuple _ _=>cases b
  |aggr _ _=>cases b
def RD{p:PV}(h:(p.flat||p.Fz)=true):p.free=true:=by
 cases p<;>first | rfl | simp[PV.flat,PV.Fz] at h
def NE{x:Value}{k:IntKind}{i:Int}{y:Nat}{c:BoundsCode}(e:x=.int k i)(f:0<=i)(d:i<=y):(Instr.sliceBound x y c).run P w=.ok i.toNat w:=by
 subst e;simp[Instr.sliceBound,asIntOf,f,d]
def Kw{isSlice:Bool}{n cap:Nat}(r:n<=cap){lo hi:Option Operand}{m:List PV}{l h:Nat}(d:QP lo.isSome hi.isSome n m=some (l,h))
  (c:∀(i:Nat) (x:Operand) (p:PV),(lo.toList++hi.toList)[i]?=some x->m[i]?=some p->p.free=true->BF G.I G.bl w (a.eval x) p) :
  (Instr.sliceBounds isSlice n cap (lo.map a.eval) (hi.map a.eval) none).run P w=.ok (l,h,cap) w/\l<=h/\h<=n:=by
 unfold QP at d
 split at d
 ·rename_i k q s o f e;obtain⟨x,rfl⟩:=Dx.1 f;obtain⟨y,rfl⟩:=Dx.1 e
  split at d
  ·rename_i g;cases d;obtain⟨j,c2,t⟩:=g;refine⟨?_,am,am⟩
   simp only[Instr.sliceBounds,AJ,Sem.run_bind,Sem.run_pure,Result.andThen_ok];rw[NE ((c 1 y (.int s o) rfl rfl rfl).CJ) am am,Result.andThen_ok,NE ((c 0 x (.int k q) rfl rfl rfl).CJ) j am]
   rfl
  ·cases d
 ·rename_i k q f e;obtain⟨x,rfl⟩:=Dx.1 f;cases hi with
  |some y=>simp at e
  |none=>
   split at d
   ·rename_i g;cases d;obtain⟨j,c2⟩:=g;refine⟨?_,am,am⟩
    simp only[Instr.sliceBounds,AJ,Option.map_none,Sem.run_bind,Sem.run_pure,Result.andThen_ok];rw[NE ((c 0 x _ rfl rfl rfl).CJ) j am]
    rfl
   ·cases d
 ·rename_i k o f e;obtain⟨y,rfl⟩:=Dx.1 e;cases lo with
  |some y=>simp at f
  |none=>
   split at d
   ·rename_i g;cases d;obtain⟨j,c2⟩:=g;refine⟨?_,am,am⟩
    simp only[Instr.sliceBounds,AJ,Option.map_none,Sem.run_bind,Sem.run_pure,Result.andThen_ok];rw[NE ((c 0 y _ rfl rfl rfl).CJ) j am]
    rfl
   ·cases d
 ·rename_i f e;cases d;cases lo with
  |some y=>simp at f
  |none=>cases hi with
   |some y=>simp at e
   |none=>exact⟨rfl,am,am⟩
 ·cases d
def Ua(hi:Inv cx G a w A σ)(d:∀t,cx.kd t=fi.kind t)(j:cx.nt=fi.nt){o:Oper}{k:PK}{xs:List Operand}{b:List CW}(D:BK fi o.dst=true)
  (c:Cb pur call { dst:=o.dst,k:=.p k,args:=b } A σ=some (A',σ')) (I:Ar fi xs=some b)
  (l:∀vs g,AQ k vs=some g->xs.length=vs.length->(∀(i:Nat) (x:Operand) (p:PV),xs[i]?=some x->vs[i]?=some p->p.free=true->BF G.I G.bl w (a.eval x) p)->
   ∃r v,g=[some r]/\r.free=true/\(execOp a.eval o).run P w=.ok (.value v) w/\BF G.I G.bl w v r/\∀e,EB G w e v r):Gives P cx o a w A' σ':=by
 refine Hz hi d j D c λvs g J K=>?_
 have B:∀{xs:List _ } {b:List _ },Ar fi xs=some b->∀{vs:List PV},Cc A b=some vs->
   xs.length=vs.length/\∀(i:Nat) (x:Operand) (p:PV),xs[i]?=some x->vs[i]?=some p->p.free=true->BF G.I G.bl w (a.eval x) p:=by
  intro xs
  induction xs with
  |nil=>intro b h vs f;cases h;cases f;grind
  |cons x xs E=>
   intro b h vs f;obtain⟨y,zs,rfl,F,u⟩:=AX h;obtain⟨p,N,rfl,q,s⟩:=Av f
   let ⟨z,L⟩:=E u s
   refine⟨by simp[z],λi H M m n C=>?_⟩
   cases i with
   |zero=>simp at m n;subst m n;exact Bq hi d F q C
   |succ i=>grind
 grind
def zJ(hi:Inv cx G a w A σ)(k:∀t,cx.kd t=fi.kind t)(j:cx.nt=fi.nt){o:Oper}{t:TypeId}{x:Operand}{lo c:Option Operand}(z:o.op=.slice t x lo c none)
  (q:P.underlying t=some .string)
  {m:List CW} (B:Ar fi (x::(lo.toList++c.toList))=some m) (v:BK fi o.dst=true) (f:Cb pur call { dst:=o.dst,k:=.p (.ssl lo.isSome c.isSome),args:=m } A σ=some (A',σ')):Gives P cx o a w A' σ':=by
 refine Ua hi k j v f B λvs E n g b=>?_
 match vs,g with
 |p::I,_=>
  cases p with
  |str l=>
   obtain⟨s,e,rfl⟩:=(b 0 x _ rfl rfl rfl).EC
   let ⟨⟨l,h⟩,u,r⟩:=Ac.1 n
   cases r
   let ⟨D,_,_⟩:=Kw (P:=P) (isSlice:=false) (cap:=s.size) (Ai _) u (λi x p H F C=>b (i+1) x p (by grind) (by grind) C)
   refine⟨_,.string (s.extract l h),rfl,rfl,?_,?_,λ_=>trivial⟩
   ·simp[execOp,z,Instr.sliceAt,Instr.slice,underlying,q,e,D]
   ·rw[<-Lib.extract_data];exact .one (.inl (.str _))
  |_=>simp[AQ] at n
 |[],g=>simp at g
def zF(hi:Inv cx G a w A σ)(hkd:∀t,cx.kd t=fi.kind t)(hnt:cx.nt=fi.nt){o:Oper}{t e:TypeId}{x:Operand}{lo M:Option Operand}(V:o.op=.slice t x lo M none)
  (T:P.underlying t=some (.slice e)) {size:Nat} {ag:Bool} (g:Cy P e=some (size,ag))
  {az:List CW} (hc:Ar fi (x::(lo.toList++M.toList))=some az) (R:BK fi o.dst=true) (X:Cb pur call { dst:=o.dst,k:=.p (.vsl size lo.isSome M.isSome),args:=az } A σ=some (A',σ')):Gives P cx o a w A' σ':=by
 refine Ua hi hkd hnt R X hc λvs rs y hl m=>?_
 match vs,hl with
 |p::bs,_=>
  cases p with
  |slice own r es=>
   obtain⟨s,len,cap,cv,I,Z,e2,Y,e4,e5,e6,e7⟩:=(m 0 x _ rfl rfl rfl).FY;simp only[AQ] at y
   split at y
   ·rename_i E;subst E;obtain⟨⟨l,h⟩,F,J⟩:=Ac.1 y;cases J;rw[<-Z] at F;obtain⟨H,h1,h2⟩:=Kw (P:=P) (G:=G) (a:=a) (w:=w) (isSlice:=true) (cap:=cap) e2 F (λi x p N L O=>m (i+1) x p (by simpa using N) (by simpa using L) O)
    have f:(sizeOf e).run P w=.ok r w:=by
     unfold Cy at g
     split at g
     ·rename_i i d hi R;cases g;simp[sizeOf,typeInfo,hi]
     ·cases g
    have v:∀i C,((es.drop l).take (h - l))[i]?=some C->i<h - l/\es[l+i]?=some C:=by
     intro i C k;rw[CO] at k
     split at k
     ·rename_i hlt;rw[CY] at k;exact⟨hlt,k⟩
     ·cases k
    refine⟨_,.slice (if cap=l then some s else(some s).map (·.add (l * r))) (h - l) (cap - l),rfl,rfl,?_,?_,λ_=>trivial⟩
    ·simp[execOp,V,Instr.sliceAt,Instr.slice,underlying,T,I,H,f]
    ·refine .one (.inl ?_)
     have D:h - l=((es.drop l).take (h - l)).length:=by
      rw[AA,Aw];omega
     by_cases B:cap=l
     ·rw[if_pos B];have K:h - l=0:=am
      have Q:(es.drop l).take (h - l)=[]:=by rw[K];simp
      rw[Q] at D ⊢;exact .slice (λi j=>cv (l+i) j) D am (λz=>absurd rfl z) (λi e h=>by simp at h) (λi e j p h=>by simp at h) (λi e j p h=>by simp at h) (λi e j p h=>by simp at h)
     ·rw[if_neg B];simp only[AJ]
      have W:es≠[]->s.add (l * r)=⟨s.block,s.off+l * r,none⟩:=by
       intro z;have S:=Y z;unfold Addr.add;split
       ·rename_i K;rw[K];cases s;dsimp only at S;rw[S];rfl
       ·rfl
      have u:(s.add (l * r)).block=s.block/\(s.add (l * r)).off=s.off+l * r:=by
       unfold Addr.add;split
       ·rename_i K;simp[K]
       ·exact⟨rfl,rfl⟩
      refine .slice (λi j=>cv (l+i) j) D am (λz=>?_) ?_ ?_ ?_ ?_
      ·have:es≠[]:=by intro K;rw[K] at z;simp at z
       rw[W this]
      ·intro i C k;exact e4 _ _ (v i C k).2
      ·intro i C j q k U;rw[u.1,u.2];have:=e5 _ _ j q (v i C k).2 U;rw[Cf] at this;rw[show s.off+l * r+i * r+j=s.off+(l * r+i * r)+j from am];exact this
      ·intro i C j q k U;rw[u.1,u.2];have:=e6 _ _ j q (v i C k).2 U;rw[Cf] at this;rw[show s.off+l * r+i * r+j=s.off+(l * r+i * r)+j from am];exact this
      ·intro i C j q k U;exact e7 _ _ j q (v i C k).2 U
   ·cases y
  |arr id gen off len r=>
   obtain⟨b,base,n,cap,b',o',Z,e2,Y,e4,I⟩:=(m 0 x _ rfl rfl rfl).JF;simp only[AQ] at y
   split at y
   ·rename_i E;subst E;obtain⟨⟨l,h⟩,F,J⟩:=Ac.1 y;cases J;obtain⟨H,h1,h2⟩:=Kw (P:=P) (G:=G) (a:=a) (w:=w) (isSlice:=true) (cap:=cap) e2 F (λi x p N L O=>m (i+1) x p (by simpa using N) (by simpa using L) O)
    have f:(sizeOf e).run P w=.ok r w:=by
     unfold Cy at g
     split at g
     ·rename_i i d hi R;cases g;simp[sizeOf,typeInfo,hi]
     ·cases g
    by_cases B:cap=l
    ·subst B;refine⟨_,.slice (some ⟨b',o',none⟩) (h - cap) (cap - cap),rfl,rfl,?_,?_,λ_=>trivial⟩
     ·simp[execOp,V,Instr.sliceAt,Instr.slice,underlying,T,I,H,f]
     ·refine .one (.inr (.arr Z am ?_ am))
      show base+(off+cap+(cap - cap)) * r<=n;rw[show off+cap+(cap - cap)=off+cap by omega];exact Y
    ·refine⟨_,.slice (some ⟨b',o'+l * r,none⟩) (h - l) (cap - l),rfl,rfl,?_,?_,λ_=>trivial⟩
     ·simp[execOp,V,Instr.sliceAt,Instr.slice,underlying,T,I,H,f,B,FM]
     ·refine .one (.inr (.arr Z am ?_ (λhc=>?_)))
      ·show base+(off+l+(cap - l)) * r<=n;rw[show off+l+(cap - l)=off+cap by omega];exact Y
      ·obtain⟨rfl,rfl⟩:=e4 am
       refine⟨rfl,?_⟩
       show base+off * r+l * r=base+(off+l) * r;rw[Cf];omega
   ·cases y
  |nils=>
   have I:=(m 0 x _ rfl rfl rfl).F6;simp only[AQ] at y;obtain⟨⟨l,h⟩,F,J⟩:=Ac.1 y;cases J;obtain⟨H,h1,h2⟩:=Kw (P:=P) (G:=G) (a:=a) (w:=w) (isSlice:=true) (cap:=0) (Ai _) F (λi x p N L O=>m (i+1) x p (by simpa using N) (by simpa using L) O)
   have f:(sizeOf e).run P w=.ok size w:=by
    unfold Cy at g
    split at g
    ·rename_i i d hi R;cases g;simp[sizeOf,typeInfo,hi]
    ·cases g
   obtain⟨rfl,rfl⟩:l=0/\h=0:=am
   exact⟨_,.slice none 0 0,rfl,rfl,by simp[execOp,V,Instr.sliceAt,Instr.slice,underlying,T,I,H,f],.one (.inl .nils),λ_=>trivial⟩
  |empt=>
   obtain⟨s,I⟩:=(m 0 x _ rfl rfl rfl).JS;simp only[AQ] at y;obtain⟨⟨l,h⟩,F,J⟩:=Ac.1 y;cases J;obtain⟨H,h1,h2⟩:=Kw (P:=P) (G:=G) (a:=a) (w:=w) (isSlice:=true) (cap:=0) (Ai _) F (λi x p N L O=>m (i+1) x p (by simpa using N) (by simpa using L) O)
   have f:(sizeOf e).run P w=.ok size w:=by
    unfold Cy at g
    split at g
    ·rename_i i d hi R;cases g;simp[sizeOf,typeInfo,hi]
    ·cases g
   obtain⟨rfl,rfl⟩:l=0/\h=0:=am
   exact⟨_,.slice (some s) 0 0,rfl,rfl,by simp[execOp,V,Instr.sliceAt,Instr.slice,underlying,T,I,H,f],.one (.inl .empt),λ_=>trivial⟩
  |_=>simp[AQ] at y
 |[],hl=>simp at hl
def uD(hi:Inv cx G a w A σ)(u:∀t,cx.kd t=fi.kind t)(v:cx.nt=fi.nt){o:Oper}{t e:TypeId}{x:Operand}{z s:IntKind}(H:o.op=.slice t x none (some (.const (.int z 0))) (some (.const (.int s 0))))
  (I:P.underlying t=some (.slice e)) {size:Nat} {ag:Bool} (h:Cy P e=some (size,ag))
  {C:List CW} (F:Ar fi [x]=some C) (B:BK fi o.dst=true) (m:Cb pur call { dst:=o.dst,k:=.p .cut0,args:=C } A σ=some (A',σ')):Gives P cx o a w A' σ':=by
 refine Ua hi u v B m F λvs L q l f=>?_
 have j:(sizeOf e).run P w=.ok size w:=by
  unfold Cy at h
  split at h
  ·rename_i i d hi B;cases h;simp[sizeOf,typeInfo,hi]
  ·cases h
 have y:∀len cap,(Instr.sliceBounds true len cap none (some (.int z 0)) (some (.int s 0))).run P w=.ok (0,0,0) w:=by
  intro len cap;rfl
 have c:∀(r:Option _) (len cap:Nat),a.eval x=.slice r len cap->(execOp a.eval o).run P w=.ok (.value (.slice r 0 0)) w:=by
  intro r len cap k;have K:a.eval (.const _)=.int z 0:=rfl;have E:a.eval (.const _)=.int s 0:=rfl;simp[execOp,H,Instr.sliceAt,Instr.slice,underlying,I,k,y,j,K,E]
 match vs,l with
 |[p],_=>
  cases p with
  |nils=>
   cases q;exact⟨_,_,rfl,rfl,c _ _ _ ((f 0 x _ rfl rfl rfl).F6),.one (.inl .nils),λ_=>trivial⟩
  |slice J D es=>
   let ⟨r,_,_,cv,k,_⟩:=(f 0 x _ rfl rfl rfl).FY
   cases q;exact⟨_,_,rfl,rfl,c _ _ _ k,.one (.inl .empt),λ_=>trivial⟩
  |arr id gen off len D=>
   let ⟨b,_,n,_,_,_,_,_,_,_,k⟩:=(f 0 x _ rfl rfl rfl).JF
   cases q;exact⟨_,_,rfl,rfl,c _ _ _ k,.one (.inl .empt),λ_=>trivial⟩
  |empt=>
   let ⟨_,k⟩:=(f 0 x _ rfl rfl rfl).JS
   cases q;exact⟨_,_,rfl,rfl,c _ _ _ k,.one (.inl .empt),λ_=>trivial⟩
  |_=>simp[AQ] at q
 |[],l=>simp at l
 |_::_::_,l=>simp at l
end
section
variable{P:Program}{pur:FuncId->Bool}{call:Caller}{fi:FI}{cx:Cx}{G:Gh}{a:Act}{w:World}{A A':Frm}{σ σ':Sto}
def JZ.Ag{I:Imm}{bl:Bl}{v:Value}{p:PV}(h:JZ I bl w v p):JZ I bl w v p.Ag:=by
 rcases h with h | h
 ·exact .inl h.Ag
 ·exact .inr (by rw[h.Ag];exact h)
def Om(xs:Array Operand)(i:Nat)(x:Operand)(h:xs.toList[i]?=some x)(f:Operand->Value):(xs.map f).getD i undef=f x:=by simp_all
def zO(hi:Inv cx G a w A σ)(r:∀t,cx.kd t=fi.kind t)(s:cx.nt=fi.nt){o:Oper}{f:FuncId}{b cap:Array Operand}(z:o.op=.makeFunc (.func f) b cap)
  {u:List CW} (C:Ar fi (b.toList++cap.toList)=some u) (D:BK fi o.dst=true) (k:Cb pur call { dst:=o.dst,k:=.p (.mkf f b.size),args:=u } A σ=some (A',σ')):Gives P cx o a w A' σ':=by
 refine Ua hi r s D k C λvs E l B j=>?_
 simp only[AQ] at l
 split at l
 ·rename_i e;cases l;rw[Au] at e;have y:b.size+cap.size=vs.length:=by simpa using B
  have h:∀(i:Nat) (x:Operand) (p:PV),(b.toList++cap.toList)[i]?=some x->vs[i]?=some p->JZ G.I G.bl w (a.eval x) p.Ag:=by
   intro i x p g c;have v:=e p (Am c);exact((j i x p g c (RD v)).AKF v).Ag
  refine⟨_,.func (.func f) (b.map a.eval) (cap.map a.eval),rfl,rfl,by simp[execOp,z,Instr.makeFunc],?_,λ_=>trivial⟩
  refine .func (by simp;omega) (by simp;omega) (λi p c=>?_) (λi p c=>?_)
  ·rw[CO] at c
   split at c
   ·rename_i d;rw[Al] at c;obtain⟨q,m,rfl⟩:=Ac.1 c;have g:b.toList[i]?=some b[i]:=by rw[Bc];exact Bp d
    rw[Om _ _ _ g];exact h i _ q (by rw[AR (by simpa using d)];exact g) m
   ·cases c
  ·rw[CY,Al] at c;obtain⟨q,m,rfl⟩:=Ac.1 c;have d:i<cap.size:=by have:=(Ad.1 m).1;omega
   have g:cap.toList[i]?=some cap[i]:=by rw[Bc];exact Bp d
   rw[Om _ _ _ g];exact h (b.size+i) _ q (by rw[Aq (by simp)];simp at g ⊢) m
 ·cases l
def run_sizeOf{e:TypeId}{n:Nat}{ag:Bool}(h:Cy P e=some (n,ag)):(sizeOf e).run P w=.ok n w:=by
 unfold Cy at h
 split at h
 ·rename_i i d hi b;cases h;simp[sizeOf,typeInfo,hi]
 ·cases h
def Jr{e:TypeId}{n:Nat}{ag:Bool}(h:Cy P e=some (n,ag)):(isAgg e).run P w=.ok ag w:=by
 unfold Cy at h
 split at h
 ·rename_i i d hi b;cases h;cases d<;>simp[isAgg,underlying,b,xz]
 ·cases h
def zY(hi:Inv cx G a w A σ)(L:∀t,cx.kd t=fi.kind t)(I:cx.nt=fi.nt){o:Oper}{t e:TypeId}{x y:Operand}(S:o.op=.indexAddr t x y)(T:P.underlying t=some (.slice e))
  {size:Nat} {ag:Bool} (B:Cy P e=some (size,ag))
  {O:List CW} (W:Ar fi [x,y]=some O) (hd:BK fi o.dst=true) (v:Cb pur call { dst:=o.dst,k:=.p (.idx size),args:=O } A σ=some (A',σ')):Gives P cx o a w A' σ':=by
 refine Ub hi L I hd v W (Qi (V:=fZ size) (λ_ _=>rfl) rfl (λ_=>rfl) (λ_ _ _ _=>rfl)) λx' y' p q r X c l M=>?_
 cases X;cases p with
 |slice own g es=>cases q with
  |int k i=>
   obtain⟨d,len,cap,cv,C,N,U,R,Q,e5,V,Z⟩:=(l rfl).FY;have D:=(M rfl).CJ;simp only[fZ] at c
   split at c
   ·rename_i u;obtain⟨rfl,E⟩:=u;obtain⟨el,f,rfl⟩:=Ac.1 c;have H:=(Ad.1 f).1;have J:es≠[]:=by intro h;subst h;simp at H
    have z:=R J;have K:d=⟨d.block,d.off,none⟩:=by cases d;dsimp only at z;rw[z]
    refine⟨rfl,.pointer (some ⟨d.block,d.off+i.toNat * g,none⟩),?_,?_,λ_=>trivial⟩
    ·have F:0<=i/\i<(len:Int):=⟨E,am⟩
     have m:=run_sizeOf (P:=P) (w:=w) B;rw[K] at C;have:Addr.add ⟨d.block,d.off,none⟩ (i.toNat * g)=⟨d.block,d.off+i.toNat * g,none⟩:=FM ..;simp[execOp,S,Instr.indexAt,C,D,asIntOf,underlying,T,F,m,this]
    ·exact .one (.inl (.vptr (λj=>cv i.toNat j) (λj p l=>e5 _ _ _ _ f l) (λj p l=>V _ _ _ _ f l) (λj p l=>Z _ _ _ _ f l)))
   ·cases c
  |_=>simp[fZ] at c
 |arr id gen off len g=>cases q with
  |int k i=>
   obtain⟨b,base,n,cap,Y,o',N,U,R,Q,C⟩:=(l rfl).JF;have D:=(M rfl).CJ;simp only[fZ] at c
   split at c
   ·rename_i u;obtain⟨rfl,E,h1⟩:=u;cases c;obtain⟨rfl,rfl⟩:=Q am
    have F:0<=i/\i<(len:Int):=⟨E,h1⟩;have m:=run_sizeOf (P:=P) (w:=w) B;refine⟨rfl,.pointer (some ⟨Y,base+(off+i.toNat) * g+0,none⟩),?_,.one (.inr (.aptr N)),λ_=>trivial⟩
    have:base+(off+i.toNat) * g+0=base+off * g+i.toNat * g:=by rw[Cf];omega
    rw[this];simp[execOp,S,Instr.indexAt,C,D,asIntOf,underlying,T,F,m,FM]
   ·cases c
  |_=>simp[fZ] at c
 |_=>simp[fZ] at c
def NB{v x:PV}{off n:Nat}{ag:Bool}(h:sub v off n ag=some x):∀(j:Nat) (p:PV),x.cells[j]?=some p->v.cells[off+j]?=some p:=by
 intro j p b;unfold sub at h;cases ag with
 |true=>
  dsimp only at h;cases v with
  |agg cs=>
   dsimp only at h
   split at h
   ·cases h;simp only[PV.cells] at b ⊢;rw[CO] at b
    split at b
    ·rw[CY] at b;exact b
    ·cases b
   ·cases h
  |_=>cases h
 |false=>
  dsimp only at h
  split at h
  ·rename_i y d
   split at h
   ·cases h
   ·rename_i c;cases h
    have:x.cells=[x]:=by
     cases x with
     |agg cs=>exact absurd rfl c
     |aggr cs=>exact absurd rfl c
     |_=>rfl
    rw[this] at b;cases j with
    |zero=>simp at b;subst b;exact d
    |succ j=>simp at b
  ·cases h
def JL{s:TypeId}{fs:Array Field}{f:Nat}{d:Field}(g:P.underlying s=some (.struct fs))(i:fs[f]?=some d){n:Nat}{ag:Bool}(h:Cy P d.type=some (n,ag))(e:n≠0)(b off:Nat):
  (Instr.fieldAt s (.pointer (some ⟨b,off,none⟩)) f).run P w=.ok (.pointer (some ⟨b,off+d.offset,none⟩)) w:=by
 simp[Instr.fieldAt,underlying,g,i,Instr.sureAddr,fieldPlace,run_sizeOf h,e,FM]
def AK3(hi:Inv cx G a w A σ)(c:∀t,cx.kd t=fi.kind t)(K:cx.nt=fi.nt){o:Oper}{t:TypeId}{x:Operand}{f:Nat}(F:o.op=.fieldAddr t x f)
  {fs:Array Field} {g:Field} (l:P.underlying t=some (.struct fs)) (J:fs[f]?=some g) {n:Nat} {ag:Bool} (H:Cy P g.type=some (n,ag)) (k:n≠0)
  (I:∀p,∀d off,p=PV.lref d off->∀y,Hg fi x=some y->Cc A [y]≠some [p])
  {L:List CW} (M:Ar fi [x]=some L) (T:BK fi o.dst=true) (s:Cb pur call { dst:=o.dst,k:=.p (.fa g.offset n ag),args:=L } A σ=some (A',σ')):Gives P cx o a w A' σ':=by
 refine Hz hi c K T s λvs Q S O=>?_
 obtain⟨p,r,rfl,h,rfl⟩:=ZT (V:=faV g.offset n ag) (k:=.fa g.offset n ag) (λ_=>rfl) rfl (λ_ _ _=>rfl) vs Q O
 obtain⟨V,y,e,rfl,E,D⟩:=ic M S;cases e;cases p with
 |vptr v=>
  obtain⟨b,off,cv,B,C,U,N⟩:=(Bq hi c E D rfl).Kn;simp only[faV] at h;obtain⟨u,R,rfl⟩:=Ac.1 h;have m:=NB R;refine⟨_,.pointer (some ⟨b,off+g.offset,none⟩),rfl,rfl,by simp[execOp,F,B,JL l J H k],?_,λ_=>trivial⟩
  refine .one (.inl (.vptr (λj=>cv (g.offset+j)) (λj q z=>?_) (λj q z=>?_) (λj q z=>?_)))
  ·have:=C _ _ (m j q z);rw[<-GM] at this;exact this
  ·have:=U _ _ (m j q z);rw[<-GM] at this;exact this
  ·exact N _ _ (m j q z)
 |ref id off=>
  obtain⟨b,C,B⟩:=(Bq hi c E D rfl).JB;simp only[faV] at h;cases h;exact⟨_,.pointer (some ⟨b,off+g.offset,none⟩),rfl,rfl,by simp[execOp,F,B,JL l J H k],.one (.inr (.ref C)),λ_=>trivial⟩
 |aptr id gen size i off=>
  obtain⟨b,base,W,C,B⟩:=(Bq hi c E D rfl).KX;simp only[faV] at h;cases h;exact⟨_,.pointer (some ⟨b,base+i * size+(off+g.offset),none⟩),rfl,rfl,by simp[execOp,F,B,JL l J H k,GM],.one (.inr (.aptr C)),λ_=>trivial⟩
 |lref d off=>exact absurd D (I _ d off rfl y E)
 |_=>simp[faV] at h
def Q0{t:TypeId}{n:Nat}{ag:Bool}(k:Cy P t=some (n,ag)){b off:Nat}{v:PV}{cv:Nat->Value}(f:fits n ag v=true)
  (q:∀(j:Nat) (p:PV),v.cells[j]?=some p->w.cell? ⟨b,off+j,none⟩=some (cv j)) :
  ∃c,(Instr.loadAt t (.pointer (some ⟨b,off,none⟩))).run P w=.ok c w/\(∀I:Imm,(∀(j:Nat) (p:PV),v.cells[j]?=some p->Rep I w (cv j) p)->Rep I w c v)/\(ag=false->c=cv 0/\v.cells=[v]):=by
 cases ag with
 |true=>
  cases v with
  |agg cs=>
   simp[fits] at f;refine⟨.agg ((List.range n).map cv).toArray,?_,λI l=>?_,λh=>by cases h⟩
   ·have h:=run_loadCells (P:=P) (w:=w) ⟨b,off,none⟩ n cv (λj r=>by
     rw[FM];have:cs[j]?=some cs[j]:=Af am
     exact q j _ this)
    simp[Instr.loadAt,Instr.sureAddr,loadVar,Jr k,run_sizeOf k,h]
   ·refine .agg (by simp[f]) λi p o=>?_
    have g:=(Ad.1 o).1
    have:((List.range n).map cv).toArray.getD i undef=cv i:=by
     simp[Array.getD,f▸g]
    rw[this];exact l i p o
  |_=>simp[fits] at f
 |false=>
  have e:v.cells=[v]:=by
   cases v with
   |agg cs=>simp[fits] at f
   |aggr cs=>simp[fits] at f
   |_=>rfl
  have m:=q 0 v (by rw[e];rfl)
  refine⟨cv 0,?_,λI l=>l 0 v (by rw[e];rfl),λ_=>⟨rfl,e⟩⟩
  rw[FH] at m;simp[Instr.loadAt,Instr.sureAddr,loadVar,Jr k,run_load,m]
def X8(hi:Inv cx G a w A σ)(j:∀t,cx.kd t=fi.kind t)(i:cx.nt=fi.nt){o:Oper}{t:TypeId}{x:Operand}(B:o.op=.load t x){n:Nat}{ag:Bool}(y:Cy P t=some (n,ag))
  {k:List CW} (E:Ar fi [x]=some k) (D:BK fi o.dst=true) (g:Cb pur call { dst:=o.dst,k:=.p (.ldp n ag),args:=k } A σ=some (A',σ')):Gives P cx o a w A' σ':=by
 refine jP hi j i D g E (ZT (V:=λp=>(ldV n ag p).map PV.Ag) (λp=>by simp[AQ];rfl) rfl (λ_ _ _=>rfl)) λI p r C l z=>?_
 cases C;obtain⟨q,h,rfl⟩:=Ac.1 l;cases p with
 |vptr v=>
  obtain⟨b,off,cv,H,J,s,m⟩:=(z rfl).Kn;simp only[ldV] at h
  split at h
  ·rename_i u;cases h;obtain⟨e,d⟩:=u;obtain⟨c,F,f,_⟩:=Q0 (P:=P) (w:=w) y e s;exact⟨by rw[Di];exact d,c,by simp[execOp,B,H,F],.one (.inl (f _ m).Ag),λ_=>Ct _⟩
  ·cases h
 |_=>simp[ldV] at h
end
section
variable{P:Program}{pur:FuncId->Bool}{call:Caller}{fi:FI}{cx:Cx}{G:Gh}{a:Act}{w:World}{A A':Frm}{σ σ':Sto}
def GU{I:Imm}{v:Value}{p:PV}(h:Rep I w v p):v.cells.size=p.cells.length/\∀(j:Nat) (q:PV),p.cells[j]?=some q->Rep I w (v.cells.getD j undef) q:=by
 cases h with
 |agg h c=>exact⟨h,c⟩
 |_=>
  refine⟨rfl,λj q b=>?_⟩
  cases j with
  |zero=>
   simp only[PV.cells,EN,Option.some.injEq] at b;subst b
   constructor<;>assumption
  |succ j=>simp[PV.cells] at b
def foldl_set(l:List Value):∀(s off:Nat) (b:Array Value),off+s+l.length<=b.size->
  (l.zipIdx s).foldl (fun(cs:Array Value) (x:Value×Nat)=>cs.setIfInBounds (off+x.2) x.1) b = 
   (b.toList.take (off+s)++l++b.toList.drop (off+s+l.length)).toArray:=by
 induction l with
 |nil=>simp
 |cons v l e=>
  intro s off b h;simp only[List.zipIdx_cons,F9];simp only[Ah] at h;rw[e (s+1) off _ (by simp;omega)]
  have d:(b.setIfInBounds (off+s) v).toList=b.toList.set (off+s) v:=by simp
  rw[d];rw[show off+(s+1)=(off+s)+1 from am,List.take_set,List.drop_set]
  have c:(b.toList.take (off+s+1)).set (off+s) v=b.toList.take (off+s)++[v]:=by
   rw[List.take_succ_eq_append_getElem (by simp;omega),List.set_append_right _ _ (by simp;omega)]
   have:off+s - (b.toList.take (off+s)).length=0:=by grind
   rw[this];rfl
  rw[c];simp only[Ah,AC,Bg,Bn]
  grind
def Uh(v:Value)(off:Nat)(b:Array Value)(h:off+v.cells.size<=b.size):
  v.cells.zipIdx.foldl (fun(cs:Array Value) (x:Value×Nat)=>cs.setIfInBounds (off+x.2) x.1) b=(b.toList.take off++v.cells.toList++b.toList.drop (off+v.cells.size)).toArray:=by
 rw[<-Fa];simpa using (foldl_set v.cells.toList 0 _ _ (by grind))
def MP(I:Imm)(w:World)(cs:List Value)(ps:List PV):Prop:=cs.length=ps.length/\∀(i:Nat) (p:PV),ps[i]?=some p->∃c,cs[i]?=some c/\Rep I w c p
def MP.place{I:Imm}{cs:List Value}{ps:List PV}(h:MP I w cs ps){e:List Value}{d:List PV}(c:MP I w e d)(off:Nat)(l:off+d.length<=ps.length):
  MP I w (cs.take off++e++cs.drop (off+e.length)) (Fw ps off d):=by
 unfold Fw;refine⟨by simp[h.1,c.1],λi p b=>?_⟩
 have k:(cs.take off).length=off:=by rw[AA,h.1];omega
 have j:(ps.take off).length=off:=by grind
 rw[AC] at b ⊢;by_cases g:i<off
 ·rw[AR am] at b ⊢
  rw[CO,if_pos g] at b ⊢;exact h.2 i p b
 ·rw[Aq am,j] at b
  rw[Aq am,k]
  by_cases f:i - off<d.length
  ·rw[AR f] at b;rw[AR (by rw[c.1];exact f)]
   exact c.2 _ p b
  ·rw[Aq am,CY] at b
   rw[Aq (by rw[c.1];omega),CY,c.1]
   exact h.2 _ p b
def MP.Qy{I:Imm}{v:Value}{p:PV}(h:Rep I w v p):MP I w v.cells.toList p.cells:=by
 let ⟨_,d⟩:=GU h
 refine⟨by grind,λi q b=>?_⟩
 have c:i<v.cells.size:=by grind
 have:=d i q b
 simp_all
def MP.agg{I:Imm}{cs:Array Value}{ps:List PV}(h:MP I w cs.toList ps):Rep I w (.agg cs) (.agg ps):=by
 refine .agg (by simpa using h.1) λi p b=>?_
 let ⟨c,_,_⟩:=h.2 i p b
 simp_all
def gG{I:Imm}{e:List (Nat×Nat)}:∀(c:List (Nat×Operand)) (r:List (Nat×Nat)) (vs:List PV) (b:Array Value) (cs f:List PV),
  KC e c=some r->Rk cs r vs=some f->MP I w b.toList cs->
  (∀(i:Nat) (x:Nat×Operand) (p:PV),c[i]?=some x->vs[i]?=some p->p.flat=true->Rep I w (a.eval x.2) p)->
  ∃d,Instr.fill (e.toArray[·]?) b (c.map λx=>(x.1,a.eval x.2))=some d/\MP I w d.toList f
 |[],r,vs,b,cs,f,h,j,q,_=>by
  cases h;cases vs with
  |nil=>cases j;exact⟨b,rfl,q⟩
  |cons _ _=>simp[Rk] at j
 |(i,x)::c,r,vs,b,cs,f,h,j,q,g=>by
  simp only[KC] at h
  split at h
  ·rename_i p ps K F;cases h;obtain⟨off,n⟩:=p;cases vs with
   |nil=>simp[Rk] at j
   |cons v vs=>
    simp only[Rk] at j
    split at j
    ·rename_i H;obtain⟨D,C,s⟩:=H;have u:Rep I w (a.eval x) v:=(g 0 (i,x) v rfl rfl s);have E:=(GU u).1;have z  := by simpa using q.1
     have o:MP I w ((a.eval x).cells.zipIdx.foldl (λcs x=>cs.setIfInBounds (off+x.2) x.1) b).toList (Fw cs off v.Ag.cells):=by
      rw[Uh _ _ _ am]
      simpa using (q.place (MP.Qy u.Ag) off (by rw[Eb];omega))
     obtain⟨d,J,L⟩:=gG c ps vs _ _ f F j o (λk y p B h t=>g (k+1) y p (by simpa using B) (by simpa using h) t)
     simp only[Bu,Instr.fill,(rfl)]
     grind
    ·cases j
  ·cases h
def nR(hi:Inv cx G a w A σ)(r:∀t,cx.kd t=fi.kind t)(l:cx.nt=fi.nt){o:Oper}{t:TypeId}{ps:Array (Nat×Operand)}(E:o.op=.build t ps)
  {fs:Array Field} (J:P.underlying t=some (.struct fs)) {z:List PV} (j:F4 P t=some (.agg z)) {c:List (Nat×Nat)}
  (F:fs.toList.mapM (λf=>(P.info? f.type).map λi=>(f.offset,i.size))=some c) {q:List (Nat×Nat)} (s:KC c ps.toList=some q)
  {u:List CW} (y:Ar fi (ps.toList.map (·.2))=some u) (I:BK fi o.dst=true) (g:Cb pur call { dst:=o.dst,k:=.p (.build z q),args:=u } A σ=some (A',σ')):Gives P cx o a w A' σ':=by
 refine Ua hi r l I g y λvs O H L h=>?_
 obtain⟨n,k,e⟩:=Ac.1 H;cases e;unfold F4 at j
 split at j
 ·obtain⟨K,v,m⟩:=AB.1 j
  obtain⟨b,N,B⟩:=gG (a:=a) (I:=G.I) (w:=w) ps.toList q vs K.cells z n s k (by simpa [PV.cells] using MP.Qy (Gv m)) (λi x p M C d=>by
   exact(h i x.2 p (by grind) C (Jh d)).flat d)
  have D:P.built t (ps.map fun(i,x)=>(i,a.eval x)).toList=some b:=by
   unfold Program.built
   simp_all
  refine⟨_,_,rfl,rfl,?_,.one (.inl B.agg),λ_=>trivial⟩
  simp[execOp,E,run_build w t _ b D]
 ·cases j
def XP{k b:Ky}(h:k.val=b.val):k=b:=by
 cases k<;>simp[Ky.val] at h
 ·grind
 grind
def bU{d:TypeDesc}{k c:Ky}(f:sameKind k c=true)(q:(∃i,d=.int i)/\(∃i n,k=.i i n)\/d=.string/\∃l,k=.s l):
  Instr.sameNow d k.val c.val=some (decide (c=k)):=by
 rcases q with⟨⟨i,rfl⟩,j,n,rfl⟩ | ⟨rfl,l,rfl⟩
 ·cases c with
  |i o p=>
   simp only[sameKind,beq_iff_eq] at f;subst f;simp only[Ky.val,Instr.sameNow,if_true];congr 1
   grind
  |s l=>simp[sameKind] at f
 ·cases c with
  |i o p=>simp[sameKind] at f
  |s g=>
   simp only[Ky.val,Instr.sameNow];congr 1;by_cases h:l=g
   ·subst h;rw[decide_eq_true rfl];exact(Go.MapKept.bytes_beq _ _).2 rfl
   ·rw[decide_eq_false (λe=>by grind)]
    cases m:((⟨_⟩:ByteArray)==⟨_⟩) with
    |false=>rfl
    |true=>have:=(Go.MapKept.bytes_beq _ _).1 m;grind
def Mv{d:TypeDesc}{k:Ky}(q:(∃i,d=.int i)/\(∃i n,k=.i i n)\/d=.string/\∃l,k=.s l):∀(es:List MapEntry) (s:Nat),
  (∀e∈es,∃f,e.key=f.val/\sameKind k f=true) -> 
  (∃j e,es[j]?=some e/\e.key=k.val/\Instr.findNow d k.val es s=some (some (s+j,e.val)))\/((∀e∈es,e.key≠k.val)/\Instr.findNow d k.val es s=some none)
 |[],s,_=>.inr ⟨by simp,rfl⟩
 |e::es,s,h=>by
  let ⟨f,g,u⟩:=h e (by simp)
  simp only[Instr.findNow,g,(bU u q)];by_cases p:f=k
  ·subst p;rw[decide_eq_true rfl];exact .inl ⟨0,e,rfl,g,rfl⟩
  ·rw[decide_eq_false p];rcases Mv q _ (s+1) (λe r=>h e (AP _ r)) with⟨j,x,r,o,t⟩ | ⟨v,t⟩
   ·exact .inl ⟨j+1,_,by grind,o,by grind⟩
   ·refine .inr ⟨λx m=>?_,t⟩
    rcases AU.1 m with rfl | y
    ·rw[g];exact λe=>p (XP e)
    grind
def PI(k:Ky):∀(ks:List Ky) (vs:List PV),vs.length=ks.length->(∀v,findKey k ks vs=some v->∃j:Nat,ks[j]?=some k/\vs[j]?=some v)/\(findKey k ks vs=none->k∉ks)
 |[],vs,_=>by simp[findKey]
 |x::ks,[],h=>by grind
 |x::ks,v::vs,h=>by
  let ⟨d,g⟩:=PI k ks vs (by grind)
  simp  [findKey]
  split
  ·rename_i e;subst e;exact⟨λu c=>⟨0,rfl,by grind⟩,by simp⟩
  ·refine⟨λu c=>?_,λf=>?_⟩
   ·let ⟨j,_,_⟩:=d u c
    exact⟨j+1,by grind,by grind⟩
   grind
def BF.wJ{I:Imm}{bl:Bl}{v:Value}{ks:List Ky}{vs:List PV}(h:BF I bl w v (.mapv ks vs)):∃r b es,∃c:Nat->Nat,v=.map (some r)/\w.heap[r]?=some (.map es b)/\vs.length=ks.length/\
  (∀(i:Nat) (e:MapEntry),es[i]?=some e->∃k∈ks,e.key=k.val)/\(∀(i j:Nat) (e f:MapEntry),es[i]?=some e->es[j]?=some f->e.key=f.key->i=j)/\
  (∀(j:Nat) (k:Ky),ks[j]?=some k->((es[c j]?).map (·.key))=some k.val)/\(∀(j:Nat) (e:MapEntry) (p:PV),es[c j]?=some e->vs[j]?=some p->Rep I w e.val p):=by
 cases h.rep rfl (by simp) (by simp) with
 |mapv c q n l o d g m=>exact⟨_,_,_,_,rfl,n,l,o,d,g,m⟩
def run_checkKey{empty:Bool}{t:TypeId}{d:TypeDesc}(e:P.underlying t=some d)(c:(∃k,d=.int k)\/d=.string)(v:Value):(Instr.checkKey empty 10000 t v).run P w=.ok () w:=by
 show(Instr.checkKey _ (9999+1) t v).run P w=_;generalize 9999=n;rcases c with⟨k,rfl⟩ | rfl<;>simp[Instr.checkKey,underlying,e]
def TN{p:PV}{k:Ky}(h:RB p=some k){v:Value}{I:Imm}{bl:Bl}(b:BF I bl w v p):v=k.val:=by
 cases p with
 |int i n=>cases h;exact b.CJ
 |str l=>
  cases h;obtain⟨s,rfl,rfl⟩:=b.EC;rfl
 |_=>simp[RB] at h
def OM{p:PV}{k:Ky}(h:RB p=some k):p.free=true:=by cases p<;>first | rfl | simp[RB] at h
def bO(hi:Inv cx G a w A σ)(hkd:∀t,cx.kd t=fi.kind t)(hnt:cx.nt=fi.nt){o:Oper}{t kt et:TypeId}{x y:Operand}{ok:Bool}(ho:o.op=.lookup t x y ok)(ht:P.underlying t=some (.map kt et))
  {d:TypeDesc} (E:P.underlying kt=some d) (S:(∃k,d=.int k)\/d=.string) {z:PV} (L:F4 P et=some z)
  {az:List CW} (hc:Ar fi [x,y]=some az) (hd:BK fi o.dst=true) (g:Cb pur call { dst:=o.dst,k:=.p (.look z ok d.isInt),args:=az } A σ=some (A',σ')):Gives P cx o a w A' σ':=by
 refine Ub hi hkd hnt hd g hc (Qi (V:=IX z ok d.isInt) (λ_ _=>rfl) rfl (λ_=>rfl) (λ_ _ _ _=>rfl)) λx' y' p q r hx s C hq=>?_
 cases hx;cases p with
 |mapv ks vs=>
  obtain⟨rr,O,es,ix,ev,T,hlen,J,hone,hlt,hrv⟩:=(C rfl).wJ;simp only[IX] at s
  split at s
  ·rename_i k Z;have eq:=TN Z (hq (OM Z))
   split at s
   ·rename_i hc';obtain⟨hall,H⟩:=hc'
    have hdd:(∃i,d=.int i)/\(∃i n,k=.i i n)\/d=.string/\∃l,k=.s l:=by
     rcases S with⟨i,rfl⟩ | rfl
     ·cases k with
      |i j n=>exact .inl ⟨⟨i,rfl⟩,j,n,rfl⟩
      |s l=>simp[TypeDesc.isInt,Ky.isInt] at H
     ·cases k with
      |i j n=>simp[TypeDesc.isInt,Ky.isInt] at H
      |s l=>exact .inr ⟨rfl,l,rfl⟩
    have hsk:∀e∈es.toList,∃X,e.key=X.val/\sameKind k X=true:=by
     intro e he;obtain⟨i,hie⟩:=BP.1 he;rw[Bc] at hie;obtain⟨X,Q,e'⟩:=J i e hie;exact⟨X,e',Au.1 hall X Q⟩
    have W:∃D,(zeroValue et).run P w=.ok D w/\Rep G.I w D z/\z.free=true:=by
     unfold F4 at L
     split at L
     ·rename_i it N;obtain⟨D,R,I⟩:=AB.1 L;exact⟨D,by simp[zeroValue,typeInfo,N,R],Gv I,OO I⟩
     ·cases L
    obtain⟨D,B,m,h⟩:=W;have K:=run_checkKey (P:=P) (w:=w) (empty:=es.isEmpty) E S k.val;have M:(getObj rr).run P w=.ok (.map es O) w:=by simp[getObj,Sem.run,T]
    have hund:(underlying kt).run P w=.ok d w:=by simp[underlying,E]
    obtain⟨hs1,hs2⟩:=PI k ks vs hlen
    have fin:∀(u:PV) (c:Value) (b:Bool),Rep G.I w c u->u.free=true->r=(if ok then .tuple [u.Ag,.bool b] else u.Ag)->(execOp a.eval o).run P w=.ok (.value (if ok then .tuple #[c,.bool b] else c)) w->
      r.free=true/\∃v,(execOp a.eval o).run P w=.ok (.value v) w/\BF G.I G.bl w v r/\∀tag,EB G w tag v r:=by
     intro u c b hr hf e g;subst e;cases ok with
     |true=>
      refine⟨rfl,_,g,?_,λ_=>trivial⟩
      refine .tuple rfl λi p C=>?_
      match i with
      |0=>simp at C;subst C;exact .inl hr.Ag
      |1=>simp at C;subst C;exact .inl (.bool b)
      |n+2=>simp at C
     |false=>exact⟨by rw[if_neg (by simp),Di];exact hf,_,g,.one (.inl hr.Ag),λ_=>Ct u⟩
    rcases Mv hdd es.toList 0 hsk with⟨j,e,F,Y,U⟩ | ⟨hno,U⟩
    ·split at s
     ·rename_i u hu
      split at s
      ·rename_i hfu;cases s;obtain⟨j',hj1,hj2⟩:=hs1 u hu;have hix:=hlt j' k hj1;obtain⟨e',V,hke'⟩:=Ac.1 hix;rw[Bc] at F;have hjj:=hone _ _ _ _ F V (Y.trans hke'.symm);rw[hjj,V] at F;cases F;refine fin u e.val true (hrv j' e u V hj2) hfu rfl ?_
       simp[execOp,ho,Instr.lookup,ht,underlying,ev,eq,M,K,Instr.findKey,E,U]
      ·cases s
     ·rename_i hu
      exfalso
      rw[Bc] at F;obtain⟨X,Q,e'⟩:=J j e F;have:=XP (e'.symm.trans Y);subst this;exact hs2 hu Q
    ·split at s
     ·grind
     ·cases s;refine fin z D false m h rfl ?_
      simp[execOp,ho,Instr.lookup,ht,underlying,ev,eq,M,K,Instr.findKey,E,U,B]
   ·cases s
  ·cases s
 |nilm=>
  have ev:a.eval x=.map none:=(C rfl).TE;simp only[IX] at s
  split at s
  ·rename_i k Z;have eq:=TN Z (hq (OM Z))
   split at s
   ·rename_i H;cases s
    have W:∃D,(zeroValue et).run P w=.ok D w/\Rep G.I w D z/\z.free=true:=by
     unfold F4 at L
     split at L
     ·rename_i it N;obtain⟨D,R,I⟩:=AB.1 L;exact⟨D,by simp[zeroValue,typeInfo,N,R],Gv I,OO I⟩
     ·cases L
    obtain⟨D,B,m,h⟩:=W;have K:=run_checkKey (P:=P) (w:=w) (empty:=true) E S k.val
    have g:(execOp a.eval o).run P w=.ok (.value (if ok then .tuple #[D,.bool false] else D)) w:=by
     simp[execOp,ho,Instr.lookup,ht,underlying,ev,eq,K,Instr.findKey,E,Instr.findNow,B]
    cases ok with
    |true=>
     refine⟨rfl,_,g,?_,λ_=>trivial⟩
     refine .one (.inl (.tuple rfl λi p C=>?_))
     match i with
     |0=>simp at C;subst C;exact m.Ag
     |1=>simp at C;subst C;exact .bool false
     |n+2=>simp at C
    |false=>exact⟨by rw[if_neg (by simp),Di];exact h,_,g,.one (.inl m.Ag),λ_=>Ct z⟩
   ·cases s
  ·cases s
 |_=>simp[IX] at s
end
def Gh.MM(G:Gh)(n:Nat)(J:Option Nat->Prop)(a:Option Tag):Gh:=
 ⟨λb x=>G.I b x\/(b=n/\J x),λb=>if b=n then a else G.ω b,G.bl⟩
section
variable{P:Program}{pur:FuncId->Bool}{call:Caller}{fi:FI}{cx:Cx}{G:Gh}{a:Act}{w:World}{A A':Frm}{σ Y:Sto}
def heap_alloc_old'(w:World)(o:Obj)(i:Nat)(h:i<w.heap.size):(w.alloc o).heap[i]?=w.heap[i]?:=by
 show(w.heap.push o)[i]?=_;rw[FP,if_neg am]
def heap_alloc_new'(w:World)(o:Obj):(w.alloc o).heap[w.heap.size]?=some o:=by
 show(w.heap.push o)[w.heap.size]?=_;simp
def cell_of_heap{w c:World}{b o:Nat}(h:c.heap[b]?=w.heap[b]?):c.cell? ⟨b,o,none⟩=w.cell? ⟨b,o,none⟩:=by
 simp only[World.cell?,h]
def PQ(w:World)(cs:Array Value)(t:TypeId)(fz:Nat×Nat)(j:Nat):(w.alloc (.cells cs t fz)).cell? ⟨w.heap.size,j,none⟩=cs[j]?:=by
 simp only[World.cell?,heap_alloc_new'];rfl
def Gb(X:Tag->Prop)(f:Base cx G w)(o:Obj)(J:Option Nat->Prop)(d:Option Tag):Ext X G (G.MM w.heap.size J d) w (w.alloc o):=by
 refine⟨λb x h=>.inl h,⟨λb x h=>cell_of_heap (heap_alloc_old' _ _ _ (f.lt _ _ h)),λb h=>heap_alloc_old' _ _ _ (f.lt _ _ h)⟩,Bl.le_refl _,λ_ _ _ _=>rfl,λb i h _=>?_⟩
 have g:=(f.own b i h).1;have c:b≠w.heap.size:=am
 refine⟨by simp[Gh.MM,c,h],heap_alloc_old' _ _ _ g,λx e=>?_⟩
 rcases e with e | ⟨rfl,_⟩
 ·exact e
 ·exact absurd rfl c
def FD(c:Base cx G w)(o:Obj)(J:Option Nat->Prop)(e:Option Tag):Base cx (G.MM w.heap.size J e) (w.alloc o):=by
 have d:(w.alloc o).heap.size=w.heap.size+1:=by show(w.heap.push o).size=_;simp
 refine⟨λb h=>?_,?_,λb x h=>.inl (c.sub b x h),λb x h=>?_,λb x h=>?_,λb i h=>?_,c.Klt,by rw[d];have:=c.grow;omega,c.bl,c.os,c.tape,c.output⟩
 ·have:=c.Klt b h;have:=c.grow;rw[heap_alloc_old' _ _ _ am];exact c.keep b h
 ·refine c.same.trans (I':=G.I) ⟨λb x h=>cell_of_heap (heap_alloc_old' _ _ _ (c.lt _ _ h)),λb h=>heap_alloc_old' _ _ _ (c.lt _ _ h)⟩ c.sub
 ·rcases h with h | ⟨rfl,_⟩
  ·exact c.new b x h
  ·refine .inr λf=>?_
   have:=c.Klt _ f;have:=c.grow;omega
 ·rw[d];rcases h with h | ⟨rfl,_⟩
  ·have:=c.lt b x h;omega
  ·omega
 ·rw[d];simp only[Gh.MM] at h
  split at h
  ·rename_i g;subst g;refine⟨am,λf=>?_⟩
   have:=c.Klt _ f;have:=c.grow;omega
  ·have:=c.own b i h;exact⟨am,this.2⟩
def KQ(X:Tag->Prop):Ext X G G w w.drew:=⟨λ_ _ h=>h,⟨λ_ _ _=>rfl,λ_ _=>rfl⟩,Bl.le_refl _,λ_ _ _ _=>rfl,λ_ _ h _=>⟨h,rfl,λ_ h=>h⟩⟩
def GV(b:Base cx G w):Base cx G w.drew:=⟨b.keep,⟨b.same.cell,b.same.blk⟩,b.sub,b.new,b.lt,b.own,b.Klt,b.grow,b.bl,b.os,b.tape,b.output⟩
def Ext.trans{X:Tag->Prop}{l i f:Gh}{j m e:World}(h:Ext X l i j m)(k:Ext X i f m e):Ext X l f j e:=by
 refine⟨λb x r=>k.I _ _ (h.I _ _ r),h.same.trans k.same h.I,h.bl.trans k.bl,λid d c g=>(k.ab id (Bj d h.bl.1.length_le) c g).trans (h.ab id d c g),λb n t c=>?_⟩
 obtain⟨v,a2,u⟩:=h.fix b n t c;obtain⟨p,o,q⟩:=k.fix b n v c;exact⟨p,o.trans a2,λx s=>u x (q x s)⟩
def ax(hi:Inv cx G a w A σ){o:Oper}{k:PK}{l:List CW}(e:∀d,o.dst=some d->d<cx.nt/\(cx.kd d).val=true)
  (g:Cb pur call { dst:=o.dst,k:=.p k,args:=l } A σ=some (A',Y))
  (c:∀vs h,Cc A l=some vs->AQ k vs=some h->∃p v G' b,h=[some p]/\p.free=true/\(execOp a.eval o).run P w=.ok (.value v) b/\
   Ext (λ_=>False) G G' w b/\Base cx G' b/\G'.bl=G.bl/\BF G'.I G'.bl b v p/\∀d,o.dst=some d->EB G' b (.slot d none) v p):Gives P cx o a w A' Y:=by
 obtain⟨vs,h,r,m,rfl,t⟩:=nT g;obtain⟨p,v,G',b,rfl,u,s,q,n,j,f,i⟩:=c vs h r m;rw[t p rfl];exact .inl ⟨v,b,s,G',hi.M9 q n j o.dst e u f i⟩
def AK4(hi:Inv cx G a w A σ)(l:∀t,cx.kd t=fi.kind t){o:Oper}{t:TypeId}{x:Operand}(z:o.op=.box t x)
  (g:∀d,o.dst=some d->d<cx.nt/\(cx.kd d).val=true)
  {n:List CW} (u:Ar fi [x]=some n) (h:Cb pur call { dst:=o.dst,k:=.p .bx,args:=n } A σ=some (A',Y)):Gives P cx o a w A' Y:=by
 refine ax hi g h λvs E v i=>?_
 obtain⟨y,zs,rfl,B,D⟩:=AX u;cases D;obtain⟨p,F,rfl,s,e⟩:=Av v;cases e;simp only[AQ] at i
 split at i
 ·rename_i r;cases i;have f:=((Bq hi l B s (Jh r)).flat r).Ag;obtain⟨C,c⟩:=GU f
  let J:Option Nat->Prop:=λx=>∃o,x=some o
  refine⟨_,.pointer (some ⟨w.heap.size,0,none⟩),G.MM w.heap.size J none,w.alloc (.cells (a.eval x).cells t),rfl,rfl,?_,Gb _ hi.base _ _ _,FD hi.base _ _ _,rfl,?_,λ_ _=>trivial⟩
  ·simp only[execOp,z,Instr.box,newVar,newRow];rfl
  ·have b:=Gb (λ_=>False) hi.base (.cells (a.eval x).cells t) J none
   refine .one (.inl (.vptr (λj=>(a.eval x).cells.getD j undef) (λj q e=>.inr ⟨rfl,⟨_,rfl⟩⟩) (λj q e=>?_) (λj q e=>(c j q e).mono b.I b.same)))
   rw[BB,PQ];have k:j<(a.eval x).cells.size:=by have:=(Ad.1 e).1;omega
   simp[Array.getD,k]
 ·cases i
def O5(w:World)(cs:Array Value)(t:TypeId):∃fz,(markStringish ⟨w.heap.size,0,none⟩).run P (w.alloc (.cells cs t))=.ok () (w.alloc (.cells cs t fz)):=by
 refine⟨(cs.size,cs.size+1),?_⟩
 have b:(w.alloc (.cells cs t)).shape? w.heap.size=some (t,cs.size):=by
  simp only[World.shape?,heap_alloc_new']
 simp only[markStringish,Sem.run_bind,run_shape,b,Result.andThen_ok,run_freeze];congr 1;simp only[World.freeze,World.alloc];rw[if_neg am]
 congr 1;apply Array.ext_getElem?;intro i;rw[Dh,FP,FP];by_cases h:w.heap.size=i
 ·subst h;simp
 ·have:¬i=w.heap.size:=λe=>h e.symm
  simp[h,this]
def Aq6(hi:Inv cx G a w A σ)(n:∀t,cx.kd t=fi.kind t)(C:cx.nt=fi.nt){o:Oper}{s t e:TypeId}{x:Operand}(R:o.op=.convert s t x)
  (r:P.underlying s=some .string) (N:P.underlying t=some (.slice e)) (v:P.underlying e=some (.int .u8))
  {E:List CW} (M:Ar fi [x]=some E) (Q:BK fi o.dst=true) (m:Cb pur call { dst:=o.dst,k:=.p .cvb,args:=E } A σ=some (A',Y)):Gives P cx o a w A' Y:=by
 refine ax hi (Eg n C Q) m λvs V H B=>?_
 obtain⟨y,zs,rfl,O,T⟩:=AX M;cases T;obtain⟨p,W,rfl,I,h⟩:=Av H;cases h;cases p with
 |str l=>
  obtain⟨b,U,rfl⟩:=(Bq hi n O I rfl).EC;simp only[AQ] at B;cases B
  let cap:=Question.cut (.appendCap b.size 0 e) (w.tape w.drawn (.appendCap b.size 0 e))
  let cs:Array Value:=(b.data.map λc=>Value.int .u8 c.toNat)++Array.replicate (cap - b.size) (.int .u8 0)
  obtain⟨fz,L⟩:=O5 (P:=P) w.drew cs e
  let J:Option Nat->Prop:=λx=>∃o,x=some o
  have k:=(KQ (G:=G) (w:=w) (λ_=>False)).trans (Gb (λ_=>False) (GV hi.base) (.cells cs e fz) J none)
  have u:b.size=b.data.size:=rfl;refine⟨_,.slice (some ⟨w.heap.size,0,none⟩) b.size cap,G.MM w.heap.size J none,w.drew.alloc (.cells cs e fz),rfl,rfl,?_,k,FD (GV hi.base) _ _ _,rfl,?_,λ_ _=>trivial⟩
  ·simp only[execOp,R,convert,underlying,Sem.run_bind,run_program,r,N,Result.andThen_ok,Sem.run_pure,U,v,Conv.stringToBytes,run_choose,Question.forced,newRow,run_newObj];have:(markStringish ⟨w.heap.size,0,none⟩).run P (w.drew.alloc (.cells cs e))=.ok () (w.drew.alloc (.cells cs e fz)):=L;simp only[Bool.false_eq_true,if_false];show(Result.andThen (Result.andThen ((markStringish ⟨w.heap.size,0,none⟩).run P (w.drew.alloc (.cells cs e))) _) _)=_;rw[this];rfl
  ·refine .one (.inl (.slice (λi _=>cs.getD i undef) (by rw[Ap];exact Lib.size_eq b) ?_ (λ_=>rfl) ?_ ?_ ?_ ?_))
   ·show b.size<=cap;simp only[cap,Question.cut];omega
   ·intro i F d;rw[Al] at d;obtain⟨c,_,rfl⟩:=Ac.1 d;rfl
   ·intro i F j q d h;exact .inr ⟨rfl,⟨_,rfl⟩⟩
   all_goals (
    intro i F j q d h;rw[Al] at d;obtain⟨c,f,rfl⟩:=Ac.1 d;have z:i<b.data.size:=by have:=(Ad.1 f).1;simpa using this
    have K:j=0:=by
     cases j with
     |zero=>rfl
     |succ j=>simp[PV.cells] at h
    subst K;simp[PV.cells] at h;subst h
    have g:cs[i]?=some (Value.int .u8 c.toNat):=by
     simp only[cs];rw[Ej (by simpa using z),Array.getElem?_map]
     rw[Bc] at f;rw[f];rfl)
   ·have:=PQ w.drew cs e fz i;rw[show(0+i * 1+0)=i from am]
    rw[show cs.getD i undef=Value.int .u8 c.toNat from by rw[Ao,g];rfl,<-g]
    exact this
   ·rw[show cs.getD i undef=Value.int .u8 c.toNat from by rw[Ao,g];rfl]
    exact .int _ _
 |_=>simp[AQ] at B
end
section
variable{P:Program}{pur:FuncId->Bool}{call:Caller}{fi:FI}{cx:Cx}{G:Gh}{a:Act}{w:World}{A A':Frm}{σ D:Sto}
def Rj(vs:List Value):List Value:=vs.flatMap λv=>v.cells.toList
def flat_get{size:Nat}:∀(vs:List Value) (i j:Nat) (v:Value),(∀v∈vs,v.cells.size=size)->vs[i]?=some v->j<size->(Rj vs)[i * size+j]?=v.cells[j]?
 |[],i,j,v,_,h,_=>by simp at h
 |u::vs,i,j,v,b,h,f=>by
  have d:=b u (AV ..);simp only[Rj,List.flatMap_cons];cases i with
  |zero=>
   simp at h;subst h;rw[Nat.zero_mul,BB,AR (by simp;omega),Bc]
  |succ i=>
   rw[Aq (by simp[d];rw[BU];omega)]
   have:=flat_get vs i j v (λv e=>b v (AP _ e)) (by simpa using h) f
   rw[<-this];congr 1;simp[d,BU];omega
def gy{size:Nat}:∀(vs:List Value),(∀v∈vs,v.cells.size=size)->(Rj vs).length=vs.length * size
 |[],_=>by simp[Rj]
 |u::vs,h=>by
  have:=gy vs (λv c=>h v (AP _ c))
  simp only[Rj,List.flatMap_cons,Ae,Ah] at this ⊢;rw[this];simp[h u (AV ..),BU];omega
def Un{size:Nat}(f:Operand->Value):∀(b:List (Nat×Operand)) (k:Nat) (g c:List Value) (d:Array Value),PH k b=true->g.length=k * size->
  d.toList=g++c->c.length=b.length * size->(∀x∈b,(f x.2).cells.size=size)->
  ∃e,Instr.fill (λi=>some (i * size,size)) d (b.map λx=>(x.1,f x.2))=some e/\e.toList=g++Rj (b.map λx=>f x.2)
 |[],k,g,c,d,_,_,q,r,_=>by
  have:c=[]:=Ak.1 (by simpa using r)
  exact⟨d,rfl,by rw[q,this];simp[Rj]⟩
 |(i,x)::b,k,g,c,d,p,o,q,r,j=>by
  simp only[PH,Aj,beq_iff_eq] at p;obtain⟨rfl,p⟩:=p;have m:=j (i,x) (AV ..);dsimp only at m
  have s:d.size=i * size+(b.length+1) * size:=by
   have:=congrArg List.length q;simp only[Array.length_toList,Ae,o,r,Ah] at this;exact this
  rw[BU] at s;have C:c.length=b.length * size+size:=by simpa [BU] using r
  have n:((f x).cells.zipIdx.foldl (fun(cs:Array Value) (x:Value×Nat)=>cs.setIfInBounds (i * size+x.2) x.1) d).toList=(g++(f x).cells.toList)++c.drop size:=by
   rw[Uh _ _ _ (by rw[m];omega),q,m]
   have B:(g++c).take (i * size)=g:=by rw[<-o];simp
   have u:(g++c).drop (i * size+size)=c.drop size:=by
    rw[<-o,List.drop_append,Co am];simp
   simp only[B,u]
  obtain⟨e,t,v⟩:=Un f b (i+1) (g++(f x).cells.toList) (c.drop size) _ p (by simp[o,m,BU]) n (by rw[Aw];omega) (λy z=>j y (AP _ z))
  refine⟨e,?_,by rw[v];simp[Rj]⟩
  simp only[Bu,Instr.fill];rw[if_neg (by simp only[m,Dk,decide_eq_true_eq,ne_eq,not_true_eq_false,decide_false,Bool.false_eq_true,false_or];omega)]
  exact t
def AqA(hi:Inv cx G a w A σ)(X:∀t,cx.kd t=fi.kind t)(hnt:cx.nt=fi.nt){o:Oper}{t e:TypeId}{n:Nat}{ps:Array (Nat×Operand)}(ho:o.op=.buildSlice t n ps)
  (ht:P.underlying t=some (.slice e)) {size:Nat} {ag:Bool} (V:Cy P e=some (size,ag)) (Y:PH 0 ps.toList=true) (hn:ps.size=n) (hn':n<=1000) (hs0:0<size) (hs1:size<=100)
  (Z:(P.info? e).any (·.zero.isSome)=true)
  {az:List CW} (hc:Ar fi (ps.toList.map (·.2))=some az) (hd:BK fi o.dst=true) (Q:Cb pur call { dst:=o.dst,k:=.p (.bsl size),args:=az } A σ=some (A',D)):Gives P cx o a w A' D:=by
 refine ax hi (Eg X hnt hd) Q λvs rs he hs=>?_
 simp only[AQ] at hs
 split at hs
 case isFalse=>cases hs
 rename_i H;cases hs;rw[Au] at H
 have f:∀p∈vs,p.cells.length=size/\p.flat=true:=λp r=>by
  have:=H p r;simp only[Aj,beq_iff_eq] at this;exact this
 obtain⟨hl,T⟩:=UQ hi X hc he (λp r=>Jh (f p r).2)
 have hl':ps.size=vs.length:=by simpa using hl
 have B:∀(i:Nat) (x:Nat×Operand) (p:PV),ps.toList[i]?=some x->vs[i]?=some p->Rep G.I w (a.eval x.2) p.Ag:=λi x p u r=>
  ((T i x.2 p (by rw[Al,u];rfl) r).flat (f p (Am r)).2).Ag
 have l:∀x∈ps.toList,(a.eval x.2).cells.size=size:=by
  intro x u;obtain⟨i,U⟩:=BP.1 u;have z:i<vs.length:=by have:=(Ad.1 U).1;simp at this;omega
  have r:=Af z;have:=(GU (B i x _ U r)).1;rw[this,Eb];exact(f _ (Cg z)).1
 obtain⟨S,hit,hzs⟩:∃S,P.info? e=some S/\S.zero.isSome=true:=by
  cases h:P.info? e with
  |none=>rw[h] at Z;simp at Z
  |some S=>rw[h] at Z;exact⟨S,rfl,by simpa using Z⟩
 obtain⟨zv,hzv⟩:=Dx.1 hzs
 let zero:Array Value:=if n * size=0 then #[] else zv.cells
 let c:Array Value:=(Array.range (n * size)).map (zero[· % zero.size]!)
 obtain⟨b,I,k⟩:=Un a.eval ps.toList 0 [] c.toList c Y (by simp) (by simp) (by simp[c,hn]) l
 simp only[Bn] at k
 let J:Option Nat->Prop:=λx=>∃o,x=some o/\o<n * size
 let K:Option Tag:=o.dst.map λd=>.slot d none
 have s:=Gb (λ_=>False) hi.base (.cells b e) J K
 have N:b.size=n * size:=by
  have:=congrArg List.length k;rw[gy _ (by intro v hv;obtain⟨x,u,rfl⟩:=E8.1 hv;exact l x u)] at this
  simpa [hn] using this
 refine⟨_,.slice (some ⟨w.heap.size,0,none⟩) n n,G.MM w.heap.size J K,w.alloc (.cells b e),rfl,rfl,?_,s,FD hi.base _ _ _,rfl,?_,?_⟩
 ·have O:¬(n * size>2 ^ 24):=by
   have:n * size<=1000 * 100:=Nat.mul_le_mul hn' hs1;omega
  have y:Instr.fill (λi=>some (i * size,size)) c (ps.map λx=>(x.1,a.eval x.2)).toList=some b:=by
   rw[Array.toList_map];exact I
  simp only[c] at y;have hzr:(zeroValue e).run P w=.ok zv w:=by simp[zeroValue,typeInfo,hit,hzv]
  by_cases h0:n * size=0
  ·have M:zero=#[]:=by simp[zero,h0]
   rw[M] at y;simp only[execOp,ho,Instr.buildSlice,Sem.run_bind,underlying,run_program,ht,Result.andThen_ok,Sem.run_pure,run_sizeOf V,if_neg O,if_pos h0,newRow,run_newObj];rw[y];rfl
  ·have M:zero=zv.cells:=by simp only[zero,if_neg h0]
   rw[M] at y;simp only[execOp,ho,Instr.buildSlice,Sem.run_bind,underlying,run_program,ht,Result.andThen_ok,Sem.run_pure,run_sizeOf V,if_neg O,if_neg h0,hzr,newRow,run_newObj];rw[y];rfl
 ·have m:n=(vs.map PV.Ag).length:=by simp;omega
  have L:∀(i:Nat) (C:PV) (j:Nat) (q:PV),(vs.map PV.Ag)[i]?=some C->C.cells[j]?=some q->∃v,Rep G.I w v C/\j<size/\i<n/\v.cells.size=size/\b[i * size+j]?=v.cells[j]?:=by
   intro i C j q g F;rw[Al] at g;obtain⟨p,r,rfl⟩:=Ac.1 g;have z:i<ps.size:=by have:=(Ad.1 r).1;omega
   have u:ps.toList[i]?=some ps[i]:=by rw[Bc];exact Bp z
   have hr:=B i _ p u r
   have W:j<size:=by
    have:=(Ad.1 F).1;rw[Eb,(f p (Am r)).1] at this;exact this
   refine⟨_,hr,W,am,l _ (Am u),?_⟩
   rw[<-Bc,k];exact flat_get _ i j _ (by intro v hv;obtain⟨x,u,rfl⟩:=E8.1 hv;exact l x u) (by rw[Al,u];rfl) W
  refine .one (.inl (.slice (λi j=>b.getD (i * size+j) undef) m (Ai _) (λ_=>rfl) ?_ ?_ ?_ ?_))
  ·intro i C g;rw[Al] at g;obtain⟨p,r,rfl⟩:=Ac.1 g;rw[Eb];exact(f p (Am r)).1
  ·intro i C j q g F;obtain⟨v,_,hj,R,_,_⟩:=L i C j q g F;refine .inr ⟨rfl,_,rfl,?_⟩
   have:(i+1) * size<=n * size:=BJ _ am
   rw[BU] at this;show 0+i * size+j<n * size;omega
  ·intro i C j q g F;obtain⟨v,hr,hj,R,hvs,E⟩:=L i C j q g F;show(w.alloc (.cells b e)).cell? ⟨w.heap.size,0+i * size+j,none⟩=_;rw[BB,PQ,E,Ao,E];rw[Bp am];rfl
  ·intro i C j q g F;obtain⟨v,hr,hj,R,hvs,E⟩:=L i C j q g F;rw[Ao,E];have:=(GU hr).2 j q F;rw[Ao] at this;exact this.mono s.I s.same
 ·intro d hd';have m:n=(vs.map PV.Ag).length:=by simp;omega
  show yO _ _ _ _ _ _;refine⟨w.heap.size,0,n,b,e,by rw[<-m],by simp[Gh.MM,K,hd'],?_,?_,heap_alloc_new' _ _,by rw[N];omega,hs0,am⟩
  ·rintro(h | ⟨_,o,h,_⟩)
   ·have:=hi.base.lt _ _ h;omega
   ·cases h
  ·intro o' ho' h;rcases h with h | ⟨_,o'',h,z⟩
   ·have:=hi.base.lt _ _ h;omega
   ·cases h;rw[<-m] at ho';omega
end
end Go.Abs
