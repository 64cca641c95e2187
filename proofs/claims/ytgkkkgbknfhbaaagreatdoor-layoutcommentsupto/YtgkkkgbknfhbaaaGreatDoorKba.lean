/- A part of the proof: D7 D11 D12 D13 D14. -/
import Derived.Test.YtgkkkgbknfhbaaaGreatDoorKay
import Derived.Test.YtgkkkgbknfhbaaaGreatDoorKax
import Derived.Test.YtgkkkgbknfhbaaaGreatDoorKaz

set_option linter.all false
namespace Go.Abs.Z
section
variable{w:Nat->Wd}{m:Nat}{c c':NT->Nat->List AD->LF}{p q:Pg}{k:Nat}
def Tot(w:Nat->Wd)(m:Nat)(c:NT->Nat->List AD->LF)(p:Pg)(k:Nat):Prop:=k<=m->∀D,Dok k D->∃r,Ml w c p k D=some r
def Tot.ret{v:Rs}:Tot w m c (.ret v) k:=λ_ D _=>⟨_,rfl⟩
def Tot.look{f:Wd->Wd->Nat->Pg}(h:Tot w m c (f (w k) (w (k+1)) k) k):Tot w m c (.look f) k:=h
def Tot.mrk{g:Nat->Pg}(h:Tot w m c (g k) k):Tot w m c (Pg.mrk g) k:=h
def Tot.bd{kd f:Nat}{tx:List UInt8}{b:Bool}{ks:List AT}{g:AT->Pg}(h:∀x,Tot w m c (g x) k):Tot w m c (Pg.bd kd tx f b ks g) k:=h _
def Tot.nod{kd f:Nat}{tx:List UInt8}{ks:List AT}:Tot w m c (Pg.nod kd tx f ks) k:=Tot.bd λ_=>.ret
def Tot.rep{e:Nat}{t:List UInt8}(h:Tot w m c p k):Tot w m c (.report e t p) k:=λb D a=>h b _ (a.rp e t)
def Tot.ifW{a:List (List UInt8)}(d:a.contains (w k).2=true->Tot w m c p k)(e:a.contains (w k).2=false->Tot w m c q k):Tot w m c (Pg.ifW a p q) k:=by
 show Tot w m c (if a.contains (w k).2=true then p else q) k
 cases b:a.contains (w k).2 with
 |true=>exact d b
 |false=>exact e b
def Tot.ifK{j:Nat}(b:(w k).1=j->Tot w m c p k)(d:(w k).1≠j->Tot w m c q k):Tot w m c (Pg.ifK j p q) k:=by
 show Tot w m c (if(w k).1=j then p else q) k
 by_cases a:(w k).1=j
 ·rw[if_pos a];exact b a
 ·rw[if_neg a];exact d a
def Tot.read(f:w m=(5,[]))(b:(w k).1≠5)(h:k<m->Tot w m c p (k+1)):Tot w m c (.read p) k:=λg D e=>by
 have a:k<m:=by
  rcases Be k m with d | d
  ·exact d
  ·have:k=m:=am
   subst this;rw[f] at b;exact absurd rfl b
 show ∃r,(if(w k).1=5 then none else Ml w c p (k+1) D)=some r
 rw[if_neg b];exact h a a D (e.le am)
def ne5(h:w m=(5,[]))(g:∀k,k<=m->(w k).1=5->(w k).2=[])(d:k<=m){a:List (List UInt8)}(b:a.contains (w k).2=true)(f:a.contains []=false):(w k).1≠5:=by
 intro e;rw[g k d e,f] at b;cases b
structure Wok(w:Nat->Wd)(m:Nat):Prop where
 fin:w m=(5,[])
 nil:∀k,k<=m->(w k).1=5->(w k).2=[]
def Tot.ac(H:Wok w m){a:List (List UInt8)}(f:a.contains []=false)(d:k<m->Tot w m c p (k+1))(e:Tot w m c q k):Tot w m c (Pg.ifW a (.read p) q) k:=λb=>
 Tot.ifW (λg=>Tot.read H.fin (ne5 H.fin H.nil b g f) d) (λ_=>e) b
def Tot.rd(a:w m=(5,[]))(d:(w k).1≠5){g:List UInt8->Pg}(h:k<m->∀x,Tot w m c (g x) (k+1)):Tot w m c (Pg.rd g) k:=Tot.read a d (λb=>h b _)
def Tot.xp(H:Wok w m){x:List UInt8}(d:x≠[])(h:∀b,k<=b->Tot w m c p b):Tot w m c (Pg.xp x p) k:=
 Tot.ac H (by cases x with | nil=>exact absurd rfl d | cons a l=>rfl) (λ_=>h _ am) (.rep (h _ (Ai _)))
def Tot.nm(H:Wok w m){g:List UInt8->Pg}(h:∀x a,k<=a->Tot w m c (g x) a):Tot w m c (Pg.nm g) k:=
 Tot.ifK (λb=>Tot.rd H.fin am λ_ x=>h x _ am) (λ_=>.rep (h _ _ (Ai _)))
def Tot.num(H:Wok w m){g:List UInt8->Pg}(h:∀x a,k<=a->Tot w m c (g x) a):Tot w m c (Pg.num g) k:=
 Tot.ifK (λb=>Tot.rd H.fin am λ_ x=>h _ _ am) (λ_=>.rep (h _ _ (Ai _)))
def Tot.nop{g:AT->Pg}(h:∀x,Tot w m c (g x) k):Tot w m c (Pg.nop g) k:=h _
def Tot.miss{g:AT->Pg}(h:∀x,Tot w m c (g x) k):Tot w m c (Pg.miss g) k:=h _
def aY(m:Nat)(c:NT->Nat->List AD->LF)(x:NT)(k:Nat):Prop:=k<=m->∀D,Dok k D->∃r,c x k D=some r
def Tot.call(l:OkI m c){x:NT}{f:Rs->Pg}(g:aY m c x k)(h:∀v a,k<=a->Tot w m c (f v) a):Tot w m c (.call x f) k:=λd D e=>by
 obtain⟨⟨v,a,o⟩,b⟩:=g d D e;obtain⟨n,a2,i⟩:=l x k D _ b d e;obtain⟨r,j⟩:=h v a n a2 o i;exact⟨r,by simp only[Ml,b,Ep];exact j⟩
def Tot.cl(b:OkI m c){x:NT}{g:AT->Pg}(d:aY m c x k)(h:∀v a,k<=a->Tot w m c (g v) a):Tot w m c (Pg.cl x g) k:=Tot.call b d λv=>h v.1
def Tot.lst(b:OkI m c){x:NT}(a:aY m c x k):Tot w m c (Pg.lst x) k:=Tot.call b a λ_ _ _=>.ret
def Tot.wr(H:Wok w m){g:AT->Pg}(h:∀x a,k<=a->Tot w m c (g x) a):Tot w m c (written g) k:=
 Tot.ac H rfl (λ_=>.mrk<|Tot.ac H rfl (λ_=>Tot.ac H rfl (λ_=>.num H λx a d=>.xp H (by decide) λb e=>.bd λy=>h y _ am) (.bd λy=>h y _ am))
  (Tot.ac H rfl (λ_=>.bd λy=>h y _ am) (.ifK (λf=>.rd H.fin am λ_ x=>.bd λy=>h y _ am) (λ_=>.rep (.miss λy=>h y _ am)))))
  (.nop λx=>h x _ (Ai _))
def Tot.fd(H:Wok w m){g:AT->Pg}(h:∀x b,k<=b->Tot w m c (g x) b):Tot w m c (QL g) k:=
 .mrk<|.nm H λx b f=>.xp H (by decide) λe i a=>Tot.ifW (λd=>.mrk<|.rd H.fin (ne5 H.fin H.nil a d rfl) λ_ t=>.bd λy=>.bd λz=>h z _ am)
  (λ_=>.rep (.miss λy=>.bd λz=>h z _ am)) a
def Tot.pa(H:Wok w m){g:AT->Pg}(h:∀x a,k<=a->Tot w m c (g x) a):Tot w m c (Qx g) k:=
 .mrk<|Tot.ac H rfl (λ_=>.nm H λx a d=>.wr H λt b e=>.bd λy=>h y _ am) (.nm H λx a d=>.wr H λt b e=>.bd λy=>h y _ am)
def Tot.var(H:Wok w m){g:AT->Pg}(h:∀x a,k<=a->Tot w m c (g x) a):Tot w m c (Jq g) k:=
 .mrk<|.nm H λx a b=>.bd λy=>h y _ b
def Tot.el(H:Wok w m)(b:OkI m c)(e:El){g:AT->Pg}(d:aY m c (.ex 1) k)(h:∀x a,k<=a->Tot w m c (g x) a):Tot w m c (Xy e g) k:=by
 cases e with
 |fd=>exact .fd H h
 |pa=>exact .pa H h
 |ex=>exact .cl b d h
def Tot.li(H:Wok w m)(d:OkI m c)(e:El){g:List AT->Pg}(i:aY m c (.ex 1) k)(j:∀b a,k<=a->aY m c (.tl e b) a)(h:∀x a,k<=a->Tot w m c (g x) a):Tot w m c (Px e g) k:=
 .el H d e i λx a f=>.call d (j _ _ f) λv l n=>h _ _ am
end
def rk:NT->Nat
 |.ex 1=>6
 |.ex 2=>5
 |.ex 3=>4
 |.ex 5=>3
 |.ex 6=>2
 |.ex _=>1
 |.st=>7
 |.sts _=>8
 |.pg _=>9
 |_=>0
def mu(m:Nat)(x:NT)(k:Nat):Nat:=(m - k) * 10+rk x+1
def OI:NT->Prop
 |.ex L=>L=1\/L=2\/L=3\/L=5\/L=6\/L=7
 |.lp L _ _=>L=1\/L=2\/L=5\/L=6
 |_=>True
section
variable{w:Nat->Wd}{m:Nat}
def AJZ(H:Wok w m){n k:Nat}{D:List AD}{r:Rs×Nat×List AD}(f:k<=m)(q:Dok k D)(B:(w k).1≠5)(y:J2.contains (w k).2=false)(z:runN w (n+1) .st k D=some r):k<r.2.1:=by
 have a:(w m).1=5:=by rw[H.fin]
 have l:=Gt (w:=w) a n
 have b:∀{p:Pg} {e:List AD},G3 w m (runN w n) r p (k+1) e->k<r.2.1:=λ{p e} h=>by
  have:=(MZ a l p _ _ r h.run h.le h.ok).1;omega
 have h:G3 w m (runN w n) r (prog .st) k D:=⟨z,f,q⟩;rcases h.ifW with⟨_,h⟩ | ⟨_,h⟩
 ·exact b (h.mrk.read a).2
 rcases h.ifW with⟨_,h⟩ | ⟨_,h⟩
 ·have c:=h.lst;cases n with
  |zero=>cases c
  |succ n=>
   have d:G3 w m (runN w n) r (prog .br) k D:=⟨c,f,q⟩;have i:=(d.mrk.read a).2;have:=(MZ a (Gt a n) _ _ _ r i.run i.le i.ok).1;omega
 rcases h.ifW with⟨_,h⟩ | ⟨_,h⟩
 ·exact b (h.mrk.read a).2
 rcases h.ifW with⟨_,h⟩ | ⟨_,h⟩
 ·exact b (h.mrk.read a).2
 rcases h.ifW with⟨_,h⟩ | ⟨_,h⟩
 ·exact b (h.mrk.read a).2
 rcases h.ifW with⟨_,h⟩ | ⟨_,h⟩
 ·exact b (h.mrk.read a).2
 rcases h.ifK with⟨A,h⟩ | ⟨_,h⟩
 ·have h:=h.mrk.look;by_cases t:(w (k+1)).2=[40]
  ·rw[if_pos t] at h;exact b (h.rd a).2
  ·rw[if_neg t] at h;rcases h.mrk.mrk.ifK with⟨_,h⟩ | ⟨j,_⟩
   ·exact b (h.rd a).2
   ·exact absurd A j
 ·obtain⟨v,x,e,c,C,d⟩:=h.rep.mrk.call l;cases n with
  |zero=>cases c
  |succ n=>
   have g:G3 w m (runN w n) (v,x,e) (prog (.sk k)) k (rp D 6 k []):=⟨c,f,q.rp 6 []⟩;rcases g.ifK with⟨j,_⟩ | ⟨_,g⟩
   ·exact absurd j B
   ·have g:=g.mrk;rw[if_pos rfl] at g;rcases g.ifW with⟨s,_⟩ | ⟨_,g⟩
    ·rw[y] at s;cases s
    ·have o:=(g.rd a).2;have u:=(MZ a (Gt a n) _ _ _ _ o.run o.le o.ok).1;have E:=(MZ a l _ _ _ r d.run d.le d.ok).1;have u:k+1<=x:=u;omega
def AkR{x y:NT}{k a:Nat}(h:k<a)(b:a<=m)(c:rk y<=9):mu m y a<mu m x k:=by unfold mu;omega
def rk9(x:NT):rk x<=9:=by
 cases x with
 |ex L=>unfold rk;split<;>omega
 |_=>simp[rk]
def lQ(H:Wok w m):∀n x k,OI x->(x=.br->(w k).1≠5)->mu m x k<=n->aY m (runN w n) x k
 |0,x,k,_,_,h=>by unfold mu at h;omega
 |n+1,x,k,X,hbr,h=>by
  have hm:(w m).1=5:=by rw[H.fin]
  have d:=Gt (w:=w) hm n;have IH:=lQ H n
  suffices K:Tot w m (runN w n) (prog x) k from K
  have i:∀y c,OI y->k<c->(p:y=.br->(w c).1≠5:=by intro e;cases e)->aY m (runN w n) y c:=λy c hy F p j=>IH y c hy p (by have:=AkR (m:=m) (x:=x) F j (rk9 y);omega) j
  have lo:∀y c,OI y->rk y<rk x->k<=c->(p:y=.br->(w c).1≠5:=by intro e;cases e)->aY m (runN w n) y c:=λy c hy hr F p j=>by
   refine IH y c hy p ?_ j
   rcases Be k c with h' | h'
   ·have:=AkR (m:=m) (x:=x) h' j (rk9 y);omega
   ·have:k=c:=am
    subst this;unfold mu at h ⊢;omega
  have a:OI (.ex 1):=.inl rfl
  have args:∀{c:Nat} {g:List AT->Pg},k<=c->(w c).1≠5\/True->(∀l q,k<q->Tot w m (runN w n) (g l) q)->(w c).1≠5->Tot w m (runN w n) (UR g) c:=λ{c g} A _ Q G=>
   .read H.fin G λT=>.ifW (λp=>.xp H (by decide) λq s=>Q _ _ am) (λp=>.li H d .ex (i _ _ a am) (λB q s=>i _ _ trivial am) λl q s=>.xp H (by decide) λu E=>Q _ _ am)
  have I:∀{c:Nat} {g:AT->Pg},k<=c->(∀x q,c<=q->Tot w m (runN w n) (g x) q)->Tot w m (runN w n) (OG g) c:=λ{c g} A Q=>
   .mrk<|.var H λv q s=>Tot.ac H rfl (λF=>.cl d (i _ _ a am) λy u E=>.xp H (by decide) λN O=>.bd λz=>Q z _ am)
    (Tot.ac H rfl (λ_=>.nm H λx u E=>.bd λz=>Q z _ am) (Q v _ s))
  have J:∀L,OI (.ex (L+1))->rk (.ex (L+1)) < rk x->0<rk x->(L=1\/L=2\/L=5\/L=6)->Tot w m (runN w n) (Pg.mrk λf=>Pg.cl (.ex (L+1)) λx=>Pg.lst (.lp L f x)) k:=λL R W h3 h4=>
   .mrk<|.cl d (lo _ _ R W (Ai _)) λv c A=>.lst d (lo _ _ h4 h3 A)
  cases x with
  |ex L=>
   rcases X with rfl | rfl | rfl | rfl | rfl | rfl
   ·exact J 1 (by simp[OI]) (by decide) (by decide) (by simp)
   ·exact J 2 (by simp[OI]) (by decide) (by decide) (by simp)
   ·refine .mrk<|Tot.ac H rfl (λF=>.cl d (i _ _ (by simp[OI]) am) λv c A=>.nod) ?_
    exact .mrk<|.cl d (lo (.ex 5) _ (by simp[OI]) (by decide) (Ai _)) λv c A j=>Tot.ifW (λp=>.rd H.fin (ne5 H.fin H.nil j p rfl) λ_ o=>.cl d (i _ _ (by simp[OI]) am) λy q s=>.nod) (λ_=>.ret) j
   ·exact J 5 (by simp[OI]) (by decide) (by decide) (by simp)
   ·exact J 6 (by simp[OI]) (by decide) (by decide) (by simp)
   ·refine .mrk<|Tot.ac H rfl (λF=>.cl d (i _ _ (by simp[OI]) am) λv c A=>.nod) ?_
    refine .mrk<|.ifK (λW=>.rd H.fin am λ_ x=>.nod) λ_=>?_
    intro C;refine Tot.ifW (λp=>.rd H.fin (ne5 H.fin H.nil C p rfl) λ_ x=>.nod) (λ_=>?_) C
    refine .look ?_
    by_cases U:(w k).1=0
    ·by_cases P:(w (k+1)).2=[40]
     ·rw[if_pos ⟨U,P⟩];refine .rd H.fin am λF x j=>args am (.inr trivial) (λl q s=>.nod) ?_ j
      intro e;have:=H.nil _ j e;rw[P] at this;cases this
     ·rw[if_neg (λx=>P x.2),if_pos U]
      exact I (Ai _) λx q s=>.ret
    ·rw[if_neg (λx=>U x.1),if_neg U]
     exact Tot.ac H rfl (λF=>.li H d .ex (i _ _ a am) (λB q s=>i _ _ trivial am) λl q s=>.xp H (by decide) λu E=>.nod)
      (Tot.ac H rfl (λF=>.xp H (by decide) λq s=>.var H λv u E=>.xp H (by decide) λN O=>.nod)
      (Tot.ac H rfl (λF=>.cl d (i _ _ a am) λv q s=>.xp H (by decide) λu E=>.ret)
      (.rep (.miss λx=>.ret))))
  |lp L f x=>
   have hn:(opL L).contains []=false:=by rcases X with rfl | rfl | rfl | rfl<;>rfl
   show Tot w m (runN w n) (Pg.ifW (opL L) (Pg.rd λo=>Pg.cl (.ex (L+1)) λy=>Pg.bd 29 o f false [x,y] λz=>Pg.lst (.lp L f z)) (.ret (x,[]))) k
   intro C;exact Tot.ifW (λp=>.rd H.fin (ne5 H.fin H.nil C p hn) λ_ o=>.cl d (i _ _ (by rcases X with rfl | rfl | rfl | rfl<;>simp[OI]) am) λy q s=>.bd λz=>.lst d (i _ _ X am)) (λ_=>.ret) C
  |tl e B=>exact Tot.ac H rfl (λF=>.el H d e (i _ _ a am) λx c A=>.lst d (i _ _ trivial am)) .ret
  |bk=>exact .mrk<|Tot.ac H rfl (λF=>.call d (i _ _ trivial am) λv c A=>.xp H (by decide) λq s=>.nod) (.rep (.bd λx=>.ret))
  |sts B=>
   refine .ifW (λ_=>.ret) λK=>.ifK (λ_=>.ret) λG=>?_
   intro C D Y;have hst:=lo .st k trivial (by simp[rk]) (Ai _) (λe=>by cases e) C D Y
   obtain⟨⟨v,c,D1⟩,R⟩:=hst;obtain⟨a1,a2,a3⟩:=d _ _ _ _ R C Y
   have T:k<c:=by
    cases n with
    |zero=>cases R
    |succ n=>exact AJZ H C Y G K R
   obtain⟨r,W⟩:=i (.sts (B++[v.1])) c trivial T (λe=>by cases e) a2 D1 a3
   exact⟨r,by simp only[Pg.cl,Ml,R,Ep,Pg.lst];rw[W];rfl⟩
  |st=>
   intro C;refine Tot.ifW (λp=>.mrk<|.read H.fin (ne5 H.fin H.nil C p rfl) λ_=>.nm H λx c A=>.wr H λt q s=>.xp H (by decide) λu E=>.cl d (i _ _ a am) λv N O=>.xp H (by decide) λk5 Z=>.nod) (λ_=>?_) C
   refine .ifW (λp=>.lst d (lo .br _ trivial (by simp[rk]) (Ai _) (λ_=>ne5 H.fin H.nil C p rfl))) (λ_=>?_)
   refine .ifW (λp=>.mrk<|.read H.fin (ne5 H.fin H.nil C p rfl) λ_=>.cl d (i _ _ a am) λv c A=>.cl d (i _ _ trivial am) λb q s=>.nod) (λ_=>?_)
   refine .ifW (λp=>.mrk<|.read H.fin (ne5 H.fin H.nil C p rfl) λ_=>.nm H λx c A=>.xp H (by decide) λq s=>.cl d (i _ _ a am) λv u E=>.xp H (by decide) λN O=>
    .cl d (i _ _ a am) λv k5 Z=>.cl d (i _ _ trivial am) λb k6 l6=>.nod) (λ_=>?_)
   refine .ifW (λp=>.mrk<|.read H.fin (ne5 H.fin H.nil C p rfl) λ_=>.look ?_) (λ_=>?_)
   ·cases aM (w (k+1)) with
    |true=>rw[if_pos rfl];exact .cl d (i _ _ a am) λv c A=>.xp H (by decide) λq s=>.nod
    |false=>rw[if_neg (by simp)];exact .nop λx=>.xp H (by decide) λq s=>.nod
   refine .ifW (λp=>.mrk<|.read H.fin (ne5 H.fin H.nil C p rfl) λ_=>.cl d (i _ _ a am) λv c A=>.xp H (by decide) λq s=>.nod) (λ_=>?_)
   refine .ifK (λU=>.mrk<|.look ?_) λ_=>.rep<|.mrk<|.call d (lo _ _ trivial (by simp[rk]) (Ai _)) λv c A=>.nod
   by_cases P:(w (k+1)).2=[40]
   ·rw[if_pos P];refine .rd H.fin am λF x j=>args am (.inr trivial) (λl q s=>.xp H (by decide) λu E=>.nod) ?_ j
    intro e;have:=H.nil _ j e;rw[P] at this;cases this
   ·rw[if_neg P];exact I (Ai _) λx q s=>.xp H (by decide) λu E=>.cl d (lo _ _ a (by decide) am) λv N O=>.xp H (by decide) λk5 Z=>.nod
  |br=>
   exact Tot.mrk (.read H.fin (hbr rfl) λ_=>.cl d (i _ _ a am) λv c A=>.cl d (i _ _ trivial am) λb q s=>Tot.ac H rfl (λF V=>Tot.ifW (λp=>.cl d (i .br _ trivial am (λ_=>ne5 H.fin H.nil V p rfl)) λo u E=>.nod)
    (λ_=>.cl d (i _ _ trivial am) λo u E=>.nod) V) (.nop λo=>.nod))
  |sk f=>
   refine .ifK (λ_=>.ret) λG=>.mrk ?_
   by_cases hf:k=f
   ·rw[if_pos hf];refine .ifW (λ_=>.ret) λ_=>.rd H.fin G λ_ x=>?_
    by_cases K:x=[59]
    ·rw[if_pos K];exact .ret
    ·rw[if_neg K];exact .lst d (i _ _ trivial am)
   ·rw[if_neg hf];refine .ifW (λ_=>.ret) λ_=>.rd H.fin G λ_ x=>?_
    by_cases K:x=[59]
    ·rw[if_pos K];exact .ret
    ·rw[if_neg K];exact .lst d (i _ _ trivial am)
  |sp=>exact .ifK (λ_=>.ret) λG=>.ifW (λ_=>.ret) λ_=>.read H.fin G λ_=>.lst d (i _ _ trivial am)
  |pg B=>
   refine .ifK (λ_=>.ret) λG=>?_
   refine .ifW (λp=>.mrk<|.read H.fin G λ_=>.nm H λx c A=>.xp H (by decide) λq s=>.li H d .fd (i _ _ a am) (λB u E=>i _ _ trivial am) λl u E=>.xp H (by decide) λN O=>.bd λy=>.lst d (i _ _ trivial am)) λ_=>?_
   refine .ifW (λp=>.mrk<|.read H.fin G λ_=>.nm H λx c A=>.mrk<|.xp H (by decide) λq s=>?_) λ_=>.rep<|.mrk<|.read H.fin G λ_=>.call d (i _ _ trivial am) λv c A=>.bd λy=>.lst d (i _ _ trivial am)
   have M:∀(y:AT) (u:Nat),k<u->Tot w m (runN w n) (written λt=>Pg.cl .bk λb=>Pg.bd 5 x k false [y,t,b] λx=>Pg.lst (.pg (B++[x]))) u:=λy u E=>
    .wr H λt N O=>.cl d (i _ _ trivial am) λb k5 Z=>.bd λz=>.lst d (i _ _ trivial am)
   exact .ifW (λ_=>.xp H (by decide) λu E=>.bd λy=>M y _ am) (λ_=>.li H d .pa (i _ _ a am) (λB u E=>i _ _ trivial am) λl u E=>.xp H (by decide) λN O=>.bd λy=>M y _ am)
end
def Asc(l:List Dg):Prop:=l.Pairwise λd e=>d.a<=e.a
def fk(k:Nat)(l:List Dg):List Dg:=l.filter λd=>d.a==k
structure Sd(l r:List Dg):Prop where
 asc:Asc r
 perm:r.Perm l
 keep:∀k,fk k r=fk k l
def Gx(k:Nat)(l m:List Dg):fk k (l++m)=fk k l++fk k m:=E9 ..
def Kc{l m:List Dg}:Asc (l++m)↔Asc l/\Asc m/\∀x∈l,∀y∈m,x.a<=y.a:=List.pairwise_append
def Sd.len{l r:List Dg}(h:Sd l r):r.length=l.length:=h.perm.length_eq
def Sd.mem{l r:List Dg}(h:Sd l r){d:Dg}:d∈r↔d∈l:=h.perm.mem_iff
def Sd.refl{l:List Dg}(h:Asc l):Sd l l:=⟨h,.refl _,λ_=>rfl⟩
def Sd.trans{l m r:List Dg}(h:Sd l m)(a:Sd m r):Sd l r:=⟨a.asc,a.perm.trans h.perm,λk=>(a.keep k).trans (h.keep k)⟩
def BZV{k:Nat}{x y:Dg}(h:x.a≠y.a)(l:List Dg):fk k (x::y::l)=fk k (y::x::l):=by
 simp only[fk,EU];by_cases a:x.a=k
 ·have:¬y.a=k:=λb=>h (a.trans b.symm)
  simp[a,this]
 ·simp[a]
def mY{k:Nat}{u v:List Dg}(h:∀x∈u,∀y∈v,x.a≠y.a):fk k (u++v)=fk k (v++u):=by
 rw[Gx,Gx];by_cases c:fk k u=[]
 ·rw[c];simp
 ·by_cases d:fk k v=[]
  ·rw[d];simp
  ·exfalso
   obtain⟨x,a⟩:=List.exists_mem_of_ne_nil _ c;obtain⟨y,b⟩:=List.exists_mem_of_ne_nil _ d;simp only[fk,Dj,beq_iff_eq] at a b;exact h x a.1 y b.1 (a.2.trans b.2.symm)
def Sd.join{A1 A2 B1 B2 R1 R2:List Dg}(c:Sd (A1++B1) R1)(d:Sd (A2++B2) R2)(h:Asc (A1++A2))(i:Asc (B1++B2))(g:∀x∈A1,∀y∈B2,x.a<=y.a)(c2:∀x∈A2,∀y∈B1,y.a<x.a):
  Sd ((A1++A2)++(B1++B2)) (R1++R2):=by
 have f:=(Kc.1 h).2.2;have e:=(Kc.1 i).2.2;refine⟨Kc.2 ⟨c.asc,d.asc,λx b y a=>?_⟩,?_,λk=>?_⟩
 ·rcases Bv.1 (c.mem.1 b) with b | b<;>rcases Bv.1 (d.mem.1 a) with a | a
  ·exact f x b y a
  ·exact g x b y a
  ·exact DJ (c2 y a x b)
  ·exact e x b y a
 ·refine(c.perm.append d.perm).trans ?_
  rw[AC,AC];refine List.Perm.append_left _ ?_
  rw[<-AC,<-AC];exact List.Perm.append_right _ List.perm_append_comm
 ·rw[Gx,c.keep,d.keep,Gx,Gx,Gx,Gx,Gx];have:=mY (k:=k) (u:=A2) (v:=B1) λx b y a=>by have:=c2 x b y a;omega
  rw[Gx,Gx] at this;rw[AC,AC,<-AC (fk k B1),<-this,AC]
def Sd.oO{A:List Dg}(h:Asc A):Sd (A++[]) A:=by simpa using Sd.refl h
def xh{P L R Q:List Dg}(h:∀k,fk k R=fk k L)(k:Nat):fk k (P++R++Q)=fk k (P++L++Q):=by rw[Gx,Gx,Gx,Gx,h]
def vE{P L R Q:List Dg}(h:R.Perm L):(P++R++Q).Perm (P++L++Q):=(h.append_left P).append_right Q
def seg(l:List Dg)(x y:Nat):List Dg:=(l.drop x).take y
def O4{P R Q:List Dg}{x y:Nat}(h:x+y<=P.length):seg (P++R++Q) x y=seg P x y:=by
 unfold seg;rw[AC,List.drop_append_of_le_length am,List.take_append_of_le_length (by rw[Aw];omega)]
def nS{P R R' Q:List Dg}{x y:Nat}(a:R.length=R'.length)(h:P.length+R.length<=x):seg (P++R++Q) x y=seg (P++R'++Q) x y:=by
 unfold seg
 have e:∀R:List Dg,P.length+R.length<=x->(P++R++Q).drop x=Q.drop (x - (P.length+R.length)):=λR h=>by
  rw[List.drop_append,Co (by rw[Ae];exact h),Bn,Ae]
 rw[e R h,e R' am,a]
def uo(l:List Dg){x y:Nat}(h:x+y<=l.length):∃P Q,l=P++seg l x y++Q/\P.length=x/\(seg l x y).length=y:=by
 refine⟨l.take x,(l.drop x).drop y,?_,by rw[AA];omega,by unfold seg;rw[AA,Aw];omega⟩
 unfold seg;rw[AC,BH,BH]
def AqJ(l:List Dg)(x y z:Nat):seg l x (y+z)=seg l x y++seg l (x+y) z:=by
 unfold seg;rw[List.take_add,BZ]
end Go.Abs.Z

namespace Go.Abs.Z
open Go.Proofs Go.RowKit
def j5{d e:Dg}(a:d.a<1000000000)(b:e.a<1000000000):E 267 [d.pv,e.pv] [] (I ((d.a:Int) - e.a)) []:=r100 (by simp[IntKind.wrap,IntKind.bits,IntKind.signed];omega)
def Mw{a:Type}{A:List a}{x:a}{B:List a}{i:Nat}(hi:i=A.length):(A++x::B)[i]?=some x:=by subst hi;simp
def K4{a:Type}{A:List a}{x y:a}{B:List a}{i:Nat}(hi:i=A.length):(A++x::B).set i y=A++y::B:=by subst hi;simp
section
variable{H T:Sto}{g n:Nat}
abbrev fnc:PV:=.func 267 [] []
def kW(s:n<1000000000):∀(d h:List Dg) (P f e M Q:List Dg) {a b c i:Nat},f.length=i->e.length=i->d.length=h.length->a=P.length->b=P.length+(e.length+d.length)+M.length->c=i+d.length->(P++e++d++M++f++h++Q).length=n->
  LL p8 0 [(0,some (.arr H.length g 0 n 5)),(1,some (N a)),(2,some (N b)),(3,some (N c)),(10,some (N i))] (aS H T g (P++e++d++M++f++h++Q)) (.exit 0) [] (aS H T g (P++e++h++M++f++d++Q))
 |[],[],P,f,e,M,Q,a,b,c,i,r,x,j,m,p,l,q=>Y7 (by simp at l;omega)
 |[],_::_,_,_,_,_,_,_,_,_,_,_,_,j,_,_,_,_=>by simp at j
 |_::_,[],_,_,_,_,_,_,_,_,_,_,_,j,_,_,_,_=>by simp at j
 |u::d,v::h,P,f,e,M,Q,a,b,c,i,r,x,j,m,p,l,q=>by
  simp only[Ae,Ah] at j p l q;have o:P++e++(u::d)++M++f++(v::h)++Q=(P++e)++u::(d++M++f++v::(h++Q)):=by simp
  have w:P++e++(u::d)++M++f++(v::h)++Q=(P++e++u::d++M++f)++v::(h++Q):=by simp
  have y:(P++e++(u::d)++M++f++(v::h)++Q).set (a+i) v=(P++e++v::d++M++f)++v::(h++Q):=by
   rw[o,K4 (by simp;omega)];simp
  have s2:((P++e++(u::d)++M++f++(v::h)++Q).set (a+i) v).set (b+i) u=P++(e++[v])++d++M++(f++[u])++h++Q:=by
   rw[y,K4 (by simp;omega)];simp
  refine Vk am am am am am (d1:=v) (by rw[w];exact Mw (by simp;omega)) am (d2:=u) (by rw[o];exact Mw (by simp;omega)) (by simp;omega) (by rw[C9];simp;omega) ?_
  rw[s2];have t:P++e++(v::h)++M++f++(u::d)++Q=P++(e++[v])++h++M++(f++[u])++d++Q:=by simp
  rw[t];exact kW s d h P (f++[u]) (e++[v]) M Q (by simp;omega) (by simp;omega) am m (by simp;omega) am (by simp;omega)
def Bq1(h:n<1000000000){P U M V Q:List Dg}{a b c:Nat}(e:U.length=V.length)(f:a=P.length)(j:b=P.length+U.length+M.length)(i:c=U.length)(d:(P++U++M++V++Q).length=n):
  E 314 [.arr H.length g 0 n 5,N a,N b,N c,fnc] (aS H T g (P++U++M++V++Q)) (.tuple []) (aS H T g (P++V++M++U++Q)):=by
 have:=kW (H:=H) (T:=T) (g:=g) h U V P [] [] M Q (i:=0) (a:=a) (b:=b) (c:=c) rfl rfl e f (by simp;omega) am (by simpa using d)
 simp only[Az] at this;exact r157 this
def Yd(o:n<1000000000)(m:Nat):∀(k:Nat) (P U V Q:List Dg) {i j:Nat},U.length+V.length<=k->0<i->0<j->i=U.length->j=V.length->m=P.length+U.length->(P++U++V++Q).length=n->
  ∃d b c f,LL iB 0 [(0,some (.arr H.length g 0 n 5)),(2,some (N m)),(4,some fnc),(10,some (N i)),(11,some (N j))] (aS H T g (P++U++V++Q)) (.exit 0) [(0,some (.arr H.length g 0 n 5)),(2,some (N m)),(4,some fnc),(10,some (N b.length))] (aS H T g (d++b++c++f))/\
   b.length=c.length/\m=d.length+b.length/\(d++b++c++f).length=n/\d++c++b++f=P++V++U++Q
 |0,P,U,V,Q,i,j,t,hi,C,w,B,u,z=>am
 |k+1,P,U,V,Q,i,j,t,hi,C,w,B,u,z=>by
  have e:=z;simp only[Ae] at e;by_cases E:i=j
  ·exact⟨P,U,V,Q,by rw[<-w];exact Y8 am,am,u,z,rfl⟩
  ·by_cases c2:j<i
   ·obtain⟨l,q,rfl,F⟩:∃l q,U=l++q/\l.length=j:=⟨U.take j,U.drop j,(BH j U).symm,by rw[AA];omega⟩
    simp only[Ae] at t w u e;obtain⟨d,b,c,f,A,s,y,r,v⟩:=Yd o m k (P++V) q l Q (i:=i - j) (j:=j) am am am am am (by simp;omega) (by simp;omega)
    have x:=Bq1 (H:=H) (T:=T) (g:=g) o (P:=P) (U:=l) (M:=q) (V:=V) (Q:=Q) (a:=m - i) (b:=m) (c:=j) am am am am (by simp;omega)
    refine⟨d,b,c,f,Vm am am am am (by simpa using x) am am (by simpa using A),s,y,r,?_⟩
    rw[v];simp
   ·obtain⟨h,p,rfl,D⟩:∃h p,V=h++p/\h.length=j - i:=⟨V.take (j - i),V.drop (j - i),(BH (j - i) V).symm,by rw[AA];omega⟩
    simp only[Ae] at t B e;obtain⟨d,b,c,f,A,s,y,r,v⟩:=Yd o m k P p h (U++Q) (i:=i) (j:=j - i) am am am am am am (by simp;omega)
    have x:=Bq1 (H:=H) (T:=T) (g:=g) o (P:=P) (U:=U) (M:=h) (V:=p) (Q:=Q) (a:=m - i) (b:=m+j - i) (c:=i) am am am am (by simp;omega)
    refine⟨d,b,c,f,Vl am am am am am am am (by simpa using x) am (by simpa using A),s,y,r,?_⟩
    rw[v];simp
def e154(i:n<1000000000){P U V Q:List Dg}{a m b:Nat}(j:U≠[])(p:V≠[])(y:a=P.length)(u:m=P.length+U.length)(x:b=m+V.length)(h:(P++U++V++Q).length=n):
  E 307 [.arr H.length g 0 n 5,N a,N m,N b,fnc] (aS H T g (P++U++V++Q)) (.tuple []) (aS H T g (P++V++U++Q)):=by
 have q:=Cv.2 j;have k:=Cv.2 p;have c:=h;simp only[Ae] at c;obtain⟨w,d,r,s,l,t,z,v,o⟩:=Yd (H:=H) (T:=T) (g:=g) i m _ P U V Q (i:=m - a) (j:=b - m) (Ai _) am am am am u h
 have e:=v;simp only[Ae] at e;rw[<-o];have f:=Bq1 (H:=H) (T:=T) (g:=g) i (P:=w) (U:=d) (M:=[]) (V:=r) (Q:=s) (a:=m - d.length) (b:=m) (c:=d.length) t am (by simp;omega) rfl (by simp;omega)
 simp only[Az] at f;exact r154 am am am am l am f
end
section
variable{H T:Sto}{g n:Nat}
def Bd(l:List Dg):Prop:=∀d∈l,d.a<1000000000
def AzH(J:n<1000000000){a b k:Nat}(P Q:List Dg)(x:Dg):∀(z:Nat) (d f:List Dg) {j:Nat},d.length=z->a=P.length->j=P.length+d.length->Asc (d++f)->(∀y∈f,x.a<y.a)->Bd (d++x::f)->(P++(d++x::f)++Q).length=n->
  ∃R q,LL Qa 1 [(0,some (.arr H.length g 0 n 5)),(1,some (N a)),(2,some (N b)),(3,some fnc),(8,some (N k)),(9,some (N j))] (aS H T g (P++(d++x::f)++Q)) (.exit 2) [(0,some (.arr H.length g 0 n 5)),(1,some (N a)),(2,some (N b)),(3,some fnc),(8,some (N k)),(9,some (N q))] (aS H T g (P++R++Q))/\Sd (d++x::f) R:=by
 intro z
 induction z with
 |zero=>
  intro d f j e u r i m l t;have:=Ak.1 e;subst this;refine⟨_,j,Zf (by simp at r;omega),Sd.refl ?_⟩
  exact CB.2 ⟨λy E=>DJ (m y E),by rw[Bn] at i;exact i⟩
 |succ z I=>
  intro d f j e u r i m l t
  obtain⟨d,y,rfl⟩:∃S y,d=S++[y]:=by
   rcases List.eq_nil_or_concat d with h | ⟨S,y,h⟩
   ·rw[h] at e;cases e
   ·exact⟨S,y,by simpa using h⟩
  have o:=t;simp only[Ae,Ah,Ba] at e;simp only[Ae,Ah,Ba] at o r;have C:P++(d++[y]++x::f)++Q=(P++d++[y])++x::(f++Q):=by simp
  have D:P++(d++[y]++x::f)++Q=(P++d)++y::x::(f++Q):=by simp
  have A:(P++(d++[y]++x::f)++Q)[j]?=some x:=by rw[C];exact Mw (by simp;omega)
  have B:(P++(d++[y]++x::f)++Q)[j - 1]?=some y:=by rw[D];exact Mw (by simp;omega)
  have v:=j5 (l x (by simp)) (l y (by simp))
  by_cases c:x.a<y.a
  ·have F:((P++(d++[y]++x::f)++Q).set j y).set (j - 1) x=P++(d++x::(y::f))++Q:=by
    rw[C,K4 (by simp;omega)]
    have:(P++d++[y])++y::(f++Q)=(P++d)++y::y::(f++Q):=by simp
    rw[this,K4 (by simp;omega)];simp
   obtain⟨R,q,G,s⟩:=I d (y::f) (j:=j - 1) am u am (by simpa using i) (λz e=>by
    rcases AU.1 e with rfl | e
    ·exact c
    ·exact m z e) (λz e=>l z (by simp at e ⊢;rcases e with h | h | h | h<;>simp[h])) (by simp;omega)
   refine⟨R,q,Vw am am A am am am B v am (by simp;omega) (by rw[C9];simp;omega) (by rw[F];exact G),s.asc,s.perm.trans ?_,λz=>(s.keep z).trans ?_⟩
   ·rw[AC];exact List.Perm.append_left _ (List.Perm.swap _ _ _)
   ·rw[AC,Gx,Gx];congr 1;exact BZV am _
  ·refine⟨_,j,Ze am am A am am am B v am,Sd.refl ?_⟩
   rw[Kc] at i ⊢;refine⟨i.1,CB.2 ⟨λz e=>DJ (m z e),i.2.1⟩,λz e w p=>?_⟩
   rcases AU.1 p with rfl | p
   ·rcases Bv.1 e with e | e
    ·have:=(Kc.1 i.1).2.2 z e y (by simp);omega
    ·rw[BR] at e;subst e;omega
   ·exact i.2.2 z e w p
def mR(s:n<1000000000){a b:Nat}(P Q:List Dg):∀(L S i:List Dg) {k:Nat},a=P.length->k=P.length+S.length->b=k+L.length->Sd i S->Bd (S++L)->(P++(S++L)++Q).length=n->
  ∃R,LL Qa 0 [(0,some (.arr H.length g 0 n 5)),(1,some (N a)),(2,some (N b)),(3,some fnc),(8,some (N k))] (aS H T g (P++(S++L)++Q)) (.exit 0) [(1,some (N a))] (aS H T g (P++R++Q))/\Sd (i++L) R
 |[],S,i,k,p,r,o,d,m,t=>⟨S,by rw[Az];exact Pf (by simp at o;omega),by simpa using d⟩
 |x::L,S,i,k,p,r,o,d,m,t=>by
  have q:=t;simp only[Ae,Ah] at q o;obtain⟨R1,j,u,e⟩:=AzH (H:=H) (T:=T) (g:=g) (b:=b) (k:=k) s P (L++Q) x S.length S [] (j:=k) rfl p r (by simpa using d.asc) (λy h=>by cases h) (λz c=>m z (by simp at c ⊢;rcases c with h | h<;>simp[h])) (by simp;omega)
  have l:=e.len;simp only[Ae,Ah,Ba] at l
  obtain⟨R,w,v⟩:=mR s (b:=b) P Q L R1 (i++[x]) (k:=k+1) p am am ⟨e.asc,e.perm.trans (d.perm.append_right [x]),λz=>by rw[e.keep,Gx,Gx,d.keep]⟩ (λz c=>by
   rcases Bv.1 c with c | c
   ·exact m z (by have:=e.mem.1 c;simp at this ⊢;rcases this with h | h<;>simp[h])
   ·exact m z (by simp[c])) (by simp;omega)
  refine⟨R,Vx am (by simpa using u) am (by simpa using w),by simpa using v⟩
def BVF(k:n<1000000000){P L Q:List Dg}{a b:Nat}(i:a=P.length)(d:b=a+L.length)(j:Bd L)(e:(P++L++Q).length=n):
  ∃R,E 294 [.arr H.length g 0 n 5,N a,N b,fnc] (aS H T g (P++L++Q)) (.tuple []) (aS H T g (P++R++Q))/\Sd L R:=by
 have c:=e;simp only[Ae] at c;cases L with
 |nil=>exact⟨[],BQ4 am (Pf (by simp at d;omega)),Sd.refl List.Pairwise.nil⟩
 |cons x L=>
  simp only[Ah] at d c;obtain⟨R,h,f⟩:=mR (H:=H) (T:=T) (g:=g) (b:=b) k P Q L [x] [x] (k:=a+1) i (by simp;omega) am (Sd.refl (CU _ _)) j e
  exact⟨R,BQ4 am h,f⟩
def UG{LEp:Nat->Nat->Nat->Prop}{f:Nat->Prop}{lo hi:Nat}(d:∀i j,¬i<j->LEp i j i)(b:∀i j r,lo<=i->i<j->j<=hi->f ((i+j) / 2)->LEp ((i+j) / 2+1) j r->LEp i j r)
  (a:∀i j r,lo<=i->i<j->j<=hi->¬f ((i+j) / 2)->LEp i ((i+j) / 2) r->LEp i j r) :
  ∀(k i j:Nat),j - i<=k->lo<=i->i<=j->j<=hi->(i=lo\/f (i - 1))->(j=hi\/¬f j)->∃r,LEp i j r/\lo<=r/\r<=hi/\(r=lo\/f (r - 1))/\(r=hi\/¬f r)
 |0,i,j,s,h,t,l,p,o=>by
  have:i=j:=am
  subst this;exact⟨i,d i i am,h,l,p,o⟩
 |k+1,i,j,s,h,t,l,p,o=>by
  by_cases c:i<j
  ·by_cases m:f ((i+j) / 2)
   ·obtain⟨r,q,x⟩:=UG d b a k ((i+j) / 2+1) j am am am l (.inr (by simpa using m)) o
    exact⟨r,b i j r h c l m q,x⟩
   ·obtain⟨r,q,x⟩:=UG d b a k i ((i+j) / 2) am h am am p (.inr m)
    exact⟨r,a i j r h c l m q,x⟩
  ·have:i=j:=am
   subst this;exact⟨i,d i i am,h,l,p,o⟩
def ky(l:List Dg)(i:Nat):Nat:=match l[i]? with
 |some d=>d.a
 |none=>0
def LY{l:List Dg}{i:Nat}{d:Dg}(h:l[i]?=some d):ky l i=d.a:=by unfold ky;rw[h]
def Fx{l:List Dg}{i:Nat}(h:i<l.length):l[i]?=some l[i]:=Af h
def JX{l:List Dg}(a:Bd l){i:Nat}(h:i<l.length):(l[i]).a<1000000000:=a _ (Cg h)
def bs0(u:n<1000000000){Ds:List Dg}(e:Bd Ds)(v:Ds.length=n){a m b:Nat}(l:a<n)(s:m<=b)(t:b<=n):
  ∃r,LL GJ 0 [(0,some (.arr H.length g 0 n 5)),(1,some (N a)),(2,some (N m)),(3,some (N b)),(4,some fnc),(10,some (N m)),(11,some (N b))] (aS H T g Ds) (.exit 0) [(0,some (.arr H.length g 0 n 5)),(1,some (N a)),(2,some (N m)),(3,some (N b)),(4,some fnc),(10,some (N r))] (aS H T g Ds)/\
   m<=r/\r<=b/\(r=m\/ky Ds (r - 1) < ky Ds a)/\(r=b\/¬ky Ds r<ky Ds a):=by
 refine UG (f:=λh=>ky Ds h<ky Ds a) (lo:=m) (hi:=b) (LEp:=λi j r=>LL GJ 0 [(0,some (.arr H.length g 0 n 5)),(1,some (N a)),(2,some (N m)),(3,some (N b)),(4,some fnc),(10,some (N i)),(11,some (N j))] (aS H T g Ds) (.exit 0) [(0,some (.arr H.length g 0 n 5)),(1,some (N a)),(2,some (N m)),(3,some (N b)),(4,some fnc),(10,some (N r))] (aS H T g Ds)) ?_ ?_ ?_ _ m b (Ai _) (Ai _) s (Ai _) (.inl rfl) (.inl rfl)
 ·exact λi j h=>Zd am
 ·intro i j r q p o f k;have d:(i+j) / 2<Ds.length:=am
  have c:a<Ds.length:=am
  rw[LY (Fx d),LY (Fx c)] at f;exact Vu am am am am am am (Fx d) l (Fx c) (j5 (JX e d) (JX e c)) am k
 ·intro i j r q p o f k;have d:(i+j) / 2<Ds.length:=am
  have c:a<Ds.length:=am
  rw[LY (Fx d),LY (Fx c)] at f;exact Vt am am am am am am (Fx d) l (Fx c) (j5 (JX e d) (JX e c)) am k
def bs2(u:n<1000000000){Ds:List Dg}(e:Bd Ds)(t:Ds.length=n){a m b:Nat}(l:m<n)(s:a<=m):
  ∃r,LL GJ 2 [(0,some (.arr H.length g 0 n 5)),(1,some (N a)),(2,some (N m)),(3,some (N b)),(4,some fnc),(14,some (N a)),(15,some (N m))] (aS H T g Ds) (.exit 4) [(0,some (.arr H.length g 0 n 5)),(1,some (N a)),(2,some (N m)),(3,some (N b)),(4,some fnc),(14,some (N r))] (aS H T g Ds)/\
   a<=r/\r<=m/\(r=a\/¬ky Ds m<ky Ds (r - 1))/\(r=m\/¬ ¬ky Ds m<ky Ds r):=by
 refine UG (f:=λh=>¬ky Ds m<ky Ds h) (lo:=a) (hi:=m) (LEp:=λi j r=>LL GJ 2 [(0,some (.arr H.length g 0 n 5)),(1,some (N a)),(2,some (N m)),(3,some (N b)),(4,some fnc),(14,some (N i)),(15,some (N j))] (aS H T g Ds) (.exit 4) [(0,some (.arr H.length g 0 n 5)),(1,some (N a)),(2,some (N m)),(3,some (N b)),(4,some fnc),(14,some (N r))] (aS H T g Ds)) ?_ ?_ ?_ _ a m (Ai _) (Ai _) s (Ai _) (.inl rfl) (.inl rfl)
 ·exact λi j h=>Zb am
 ·intro i j r p q o f k;have d:(i+j) / 2<Ds.length:=am
  have c:m<Ds.length:=am
  rw[LY (Fx d),LY (Fx c)] at f;exact Vq am am am am am l (Fx c) am (Fx d) (j5 (JX e c) (JX e d)) am k
 ·intro i j r p q o f k;have d:(i+j) / 2<Ds.length:=am
  have c:m<Ds.length:=am
  rw[LY (Fx d),LY (Fx c)] at f;exact Vr am am am am am l (Fx c) am (Fx d) (j5 (JX e c) (JX e d)) am k
def bs4(x:n<1000000000){Ds:List Dg}(e:Bd Ds)(y:Ds.length=n){a m b lo hi p:Nat}(l:p=(a+b) / 2+m - 1)(t:lo<=hi)(u:hi<=n)(v:hi<=p+1)(w:p - lo<n):
  ∃r,LL GJ 4 [(0,some (.arr H.length g 0 n 5)),(1,some (N a)),(2,some (N m)),(3,some (N b)),(4,some fnc),(18,some (N ((a+b) / 2))),(19,some (N ((a+b) / 2+m))),(20,some (N lo)),(21,some (N hi)),(22,some (N p))] (aS H T g Ds) (.exit 8) [(0,some (.arr H.length g 0 n 5)),(1,some (N a)),(2,some (N m)),(3,some (N b)),(4,some fnc),(18,some (N ((a+b) / 2))),(19,some (N ((a+b) / 2+m))),(20,some (N r))] (aS H T g Ds)/\
   lo<=r/\r<=hi/\(r=lo\/¬ky Ds (p - (r - 1)) < ky Ds (r - 1))/\(r=hi\/¬ ¬ky Ds (p - r) < ky Ds r):=by
 subst l;refine UG (f:=λh=>¬ky Ds ((a+b) / 2+m - 1 - h) < ky Ds h) (lo:=lo) (hi:=hi) (LEp:=λi j r=>LL GJ 4 [(0,some (.arr H.length g 0 n 5)),(1,some (N a)),(2,some (N m)),(3,some (N b)),(4,some fnc),(18,some (N ((a+b) / 2))),(19,some (N ((a+b) / 2+m))),(20,some (N i)),(21,some (N j)),(22,some (N ((a+b) / 2+m - 1)))] (aS H T g Ds) (.exit 8) [(0,some (.arr H.length g 0 n 5)),(1,some (N a)),(2,some (N m)),(3,some (N b)),(4,some fnc),(18,some (N ((a+b) / 2))),(19,some (N ((a+b) / 2+m))),(20,some (N r))] (aS H T g Ds)) ?_ ?_ ?_ _ lo hi (Ai _) (Ai _) t (Ai _) (.inl rfl) (.inl rfl)
 ·exact λi j h=>Y9 am
 ·intro i j r s o q k f;have c:(i+j) / 2<Ds.length:=am
  have d:(a+b) / 2+m - 1 - (i+j) / 2<Ds.length:=am
  rw[LY (Fx c),LY (Fx d)] at k;exact Vn am am am am am am am am (Fx d) am (Fx c) (j5 (JX e d) (JX e c)) am f
 ·intro i j r s o q k f;have c:(i+j) / 2<Ds.length:=am
  have d:(a+b) / 2+m - 1 - (i+j) / 2<Ds.length:=am
  rw[LY (Fx c),LY (Fx d)] at k;exact Vo am am am am am am am am (Fx d) am (Fx c) (j5 (JX e d) (JX e c)) am f
end
section
variable{H T:Sto}{g n:Nat}
def mM(l:n<1000000000){a m b r:Nat}(x:Dg)(c:List Dg):∀(B P:List Dg) {k:Nat},k=P.length->r=P.length+B.length+1->(P++x::(B++c)).length=n->
  LL GJ 1 [(0,some (.arr H.length g 0 n 5)),(1,some (N a)),(2,some (N m)),(3,some (N b)),(4,some fnc),(10,some (N r)),(13,some (N k))] (aS H T g (P++x::(B++c))) (.exit 2) [(0,some (.arr H.length g 0 n 5)),(1,some (N a)),(2,some (N m)),(3,some (N b)),(4,some fnc),(10,some (N r))] (aS H T g (P++(B++x::c)))
 |[],P,k,i,f,h=>by
  have d:=h;simp only[Ae,Ah,Ba] at d f;exact Zc am am am
 |y::B,P,k,i,f,h=>by
  have d:=h;simp only[Ae,Ah] at d f
  have j:(P++x::(y::B++c))[k+1]?=some y:=by
   rw[show P++x::(y::B++c)=(P++[x])++y::(B++c) by simp];exact Mw (by simp;omega)
  have o:(P++x::(y::B++c))[k]?=some x:=Mw i
  have s:((P++x::(y::B++c)).set k y).set (k+1) x=(P++[y])++x::(B++c):=by
   rw[K4 i,show P++y::(y::B++c)=(P++[y])++y::(B++c) by simp,K4 (by simp;omega)]
  refine Vs am am am am am j am o am (by rw[C9];omega) ?_
  rw[s];have:=mM l (a:=a) (m:=m) (b:=b) (r:=r) x c B (P++[y]) (k:=k+1) (by simp;omega) (by simp;omega) (by simp;omega)
  simpa using this
def mK(q:n<1000000000){a m b r:Nat}(x:Dg):∀(z:Nat) (B P c:List Dg) {k:Nat},B.length=z->r=P.length->k=P.length+B.length->(P++B++x::c).length=n->
  LL GJ 3 [(0,some (.arr H.length g 0 n 5)),(1,some (N a)),(2,some (N m)),(3,some (N b)),(4,some fnc),(14,some (N r)),(17,some (N k))] (aS H T g (P++B++x::c)) (.exit 6) [(0,some (.arr H.length g 0 n 5)),(1,some (N a)),(2,some (N m)),(3,some (N b)),(4,some fnc),(14,some (N r))] (aS H T g (P++x::(B++c)))
 |0,B,P,c,k,d,l,f,j=>by
  have:=Ak.1 d;subst this;rw[Az,Bn];exact Za (by simp at f;omega)
 |z+1,B,P,c,k,d,l,f,j=>by
  obtain⟨B,y,rfl⟩:∃S y,B=S++[y]:=by
   rcases List.eq_nil_or_concat B with h | ⟨S,y,h⟩
   ·rw[h] at d;cases d
   ·exact⟨S,y,by simpa using h⟩
  have i:=j;simp only[Ae,Ah,Ba] at i f d
  have o:(P++(B++[y])++x::c)[k - 1]?=some y:=by
   rw[show P++(B++[y])++x::c=(P++B)++y::(x::c) by simp];exact Mw (by simp;omega)
  have p:(P++(B++[y])++x::c)[k]?=some x:=Mw (by simp;omega)
  have s:((P++(B++[y])++x::c).set k y).set (k - 1) x=P++B++x::(y::c):=by
   rw[K4 (by simp;omega),show P++(B++[y])++y::c=(P++B)++y::(y::c) by simp,K4 (by simp;omega)]
  refine Vp am am am am o am p am (by rw[C9];omega) ?_
  rw[s];have:=mK q (a:=a) (m:=m) (b:=b) (r:=r) x z B P (y::c) (k:=k - 1) am l am (by simp;omega)
  simpa using this
def og(B:n<1000000000){a m b r lo hi:Nat}{Ds Ds1 Ds2 Ds3:List Dg}(A:a<m)(y:m<b)(x:b<=n)(z:m - a≠1)(c2:b - m≠1)
  (i:lo=if(a+b) / 2<m then(a+b) / 2+m - b else a) (f:hi=if(a+b) / 2<m then(a+b) / 2 else m)
  (j:LL GJ 4 [(0,some (.arr H.length g 0 n 5)),(1,some (N a)),(2,some (N m)),(3,some (N b)),(4,some fnc),(18,some (N ((a+b) / 2))),(19,some (N ((a+b) / 2+m))),(20,some (N lo)),(21,some (N hi)),(22,some (N ((a+b) / 2+m - 1)))] (aS H T g Ds) (.exit 8) [(0,some (.arr H.length g 0 n 5)),(1,some (N a)),(2,some (N m)),(3,some (N b)),(4,some fnc),(18,some (N ((a+b) / 2))),(19,some (N ((a+b) / 2+m))),(20,some (N r))] (aS H T g Ds))
  (t:lo<=r) (s:r<=hi)
  (v:r<m/\r<(a+b) / 2->E 307 [.arr H.length g 0 n 5,N r,N m,N ((a+b) / 2+m - r),fnc] (aS H T g Ds) (.tuple []) (aS H T g Ds1)) (q:¬(r<m/\r<(a+b) / 2)->Ds1=Ds)
  (u:a<r/\r<(a+b) / 2->E 295 [.arr H.length g 0 n 5,N a,N r,N ((a+b) / 2),fnc] (aS H T g Ds1) (.tuple []) (aS H T g Ds2)) (o:¬(a<r/\r<(a+b) / 2)->Ds2=Ds1)
  (p:r<m/\(a+b) / 2+m - r<b->E 295 [.arr H.length g 0 n 5,N ((a+b) / 2),N ((a+b) / 2+m - r),N b,fnc] (aS H T g Ds2) (.tuple []) (aS H T g Ds3)) (k:¬(r<m/\(a+b) / 2+m - r<b)->Ds3=Ds2) :
  E 295 [.arr H.length g 0 n 5,N a,N m,N b,fnc] (aS H T g Ds) (.tuple []) (aS H T g Ds3):=by
 by_cases w:(a+b) / 2<m
 ·rw[if_pos w] at i f;subst i f;by_cases d1:r<(a+b) / 2
  ·have e:=v ⟨am,d1⟩
   by_cases d2:a<r
   ·have d:=u ⟨d2,d1⟩;by_cases l:(a+b) / 2+m - r<b
    ·have c:=p ⟨am,l⟩
     exact AVA am am am am am am am am am am am am am j am am am e am am d am am c
    ·have c:=k (λh=>l h.2);subst c
     exact AV9 am am am am am am am am am am am am am j am am am e am am d am am
   ·have d:=o (λh=>d2 h.1);subst d
    by_cases l:(a+b) / 2+m - r<b
    ·have c:=p ⟨am,l⟩
     exact AV8 am am am am am am am am am am am am am j am am am e am am am c
    ·have c:=k (λh=>l h.2);subst c
     exact AV7 am am am am am am am am am am am am am j am am am e am am am
  ·have e:=q (λh=>d1 h.2);subst e
   have d:=o (λh=>d1 h.2);subst d
   have c:=p ⟨am,am⟩
   exact AVD am am am am am am am am am am am am am j am am am am am am am c
 ·rw[if_neg w] at i f;rw[i,f] at j;rw[i] at t;rw[f] at s;clear i f;by_cases d1:r<m
  ·have e:=v ⟨am,am⟩
   by_cases d2:a<r
   ·have d:=u ⟨d2,am⟩
    by_cases l:(a+b) / 2+m - r<b
    ·have c:=p ⟨am,l⟩
     exact AxA am am am am am am am am am am am am j am am am e am am d am am c
    ·have c:=k (λh=>l h.2);subst c
     exact Ax9 am am am am am am am am am am am am j am am am e am am d am am
   ·have d:=o (λh=>d2 h.1);subst d
    by_cases l:(a+b) / 2+m - r<b
    ·have c:=p ⟨am,l⟩
     exact Ax8 am am am am am am am am am am am am j am am am e am am am c
    ·have c:=k (λh=>l h.2);subst c
     exact Ax7 am am am am am am am am am am am am j am am am e am am am
  ·have e:=q (λh=>d1 h.1);subst e
   have c:=k (λh=>d1 h.1);subst c
   by_cases d2:r<(a+b) / 2
   ·have d:=u ⟨am,d2⟩
    exact AVC am am am am am am am am am am am am j am am am am d am
   ·have d:=o (λh=>d2 h.2);subst d
    exact AVB am am am am am am am am am am am am j am am am am am
def mH{l:List Dg}{u:Dg}{v:Nat}(h:Asc (l++[u]))(b:u.a<=v):∀x∈l++[u],x.a<=v:=λx a=>by
 rcases Bv.1 a with a | a
 ·exact Bf ((Kc.1 h).2.2 x a u (by simp)) b
 ·rw[BR] at a;subst a;exact b
def gp{l:List Dg}{u:Dg}{v:Nat}(h:Asc (u::l))(b:v<=u.a):∀x∈u::l,v<=x.a:=λx a=>by
 rcases AU.1 a with rfl | a
 ·exact b
 ·exact Bf b ((CB.1 h).1 x a)
def Xf{P Q:List Dg}{x:Dg}{i:Nat}(hi:i=P.length):ky (P++x::Q) i=x.a:=LY (Mw hi)
def ll{l:List Dg}(h:0<l.length):∃S y,l=S++[y]:=by
 rcases List.eq_nil_or_concat l with e | ⟨S,y,e⟩
 ·rw[e] at h;cases h
 ·exact⟨S,y,by simpa using e⟩
def Ux{P A1 M B2 Q:List Dg}(f:Asc A1)(k:Asc B2){i j:Nat}(hi:i+1=P.length+A1.length)(m:j=P.length+A1.length+M.length)
  (h:A1=[]\/B2=[]\/ky (P++A1++M++B2++Q) i<=ky (P++A1++M++B2++Q) j):∀x∈A1,∀y∈B2,x.a<=y.a:=by
 rcases h with rfl | rfl | h
 ·intro x b;cases b
 ·intro x _ y c;cases c
 ·cases l:B2 with
  |nil=>intro x _ y c;cases c
  |cons v a=>
   rcases Eu A1.length with d | d
   ·rw[Ak.1 d];intro x b;cases b
   ·obtain⟨S,u,e⟩:=ll d;subst e l;simp only[Ae,Ah,Ba] at hi m
    rw[show P++(S++[u])++M++(v::a)++Q=(P++S)++u::(M++v::(a++Q)) by simp,Xf (by simp;omega),
     show(P++S)++u::(M++v::(a++Q))=(P++S++u::M)++v::(a++Q) by simp,Xf (by simp;omega)] at h
    exact λx b y c=>Bf (mH f h x b) (gp k (Ai _) y c)
def Uy{P A2 M B1 Q:List Dg}(f:Asc A2)(k:Asc B1){i j:Nat}(hi:i=P.length)(m:j+1=P.length+A2.length+M.length+B1.length)
  (h:A2=[]\/B1=[]\/ky (P++A2++M++B1++Q) j<ky (P++A2++M++B1++Q) i):∀x∈A2,∀y∈B1,y.a<x.a:=by
 rcases h with rfl | rfl | h
 ·intro x b;cases b
 ·intro x _ y c;cases c
 ·cases l:A2 with
  |nil=>intro x b;cases b
  |cons v a=>
   rcases Eu B1.length with d | d
   ·rw[Ak.1 d];intro x _ y c;cases c
   ·obtain⟨S,u,e⟩:=ll d;subst e l;simp only[Ae,Ah,Ba] at hi m
    rw[show P++(v::a)++M++(S++[u])++Q=P++v::(a++M++S++u::Q) by simp,Xf hi,
     show P++v::(a++M++S++u::Q)=(P++v::a++M++S)++u::Q by simp,Xf (by simp;omega)] at h
    exact λx b y c=>Nat.lt_of_le_of_lt (mH k (Ai _) y c) (gp (v:=u.a+1) f h x b)
end
end Go.Abs.Z
