/- A part of the proof: A26 A34 A27. -/
import Derived.Test.YtgkkkgbknfhbaaaGreatDoorKac

set_option linter.all false
namespace Go.Abs
open Go.RowKit
section
variable{P:Program}{pur:FuncId->Bool}{call:Caller}{fi:FI}{cx:Cx}{G:Gh}{a:Act}{w:World}{A A':Frm}{σ σ':Sto}
def KA{ao:AOp}(h:Cb pur call ao A σ=some (A',σ')):
  ∃vs b,Cc A ao.args=some vs/\sem pur call ao.k vs σ=some (b,σ')/\(b.length=ao.dst.toList.length+ao.ex.length->A'=Dw A ao.wr (b++ao.clr.map λ_=>none))/\
   (b.length≠ao.dst.toList.length+ao.ex.length->A'=A/\ao.dst=none):=by
 unfold Cb at h
 split at h
 ·rename_i vs d
  split at h
  ·rename_i b c f;refine⟨_,b,d,?_,λe=>?_,λe=>?_⟩
   ·grind
   ·grind
   simp_all
  ·cases h
 ·cases h
def bK(hi:Inv cx G a w A σ){s:Nat}{p:PV}(f:cx.kd s≠.box)(e:A.get s=some p)(b:p.Fz=true):BF G.I G.bl w (at' a s) p:=by
 have h:=hi.slot s _ e;cases c:cx.kd s with
 |box=>grind
 |mapb d=>have:=((H8 c).1 h).1;subst this;cases b
 |ent m g=>let ⟨_,_,_,_,h,_⟩:=(IL c).1 h;subst h;cases b
 |plain | imm | obj=>exact((Ch (by rw[c];rfl) (by cases p<;>first | rfl | cases b)).1 h).1
def cK(hi:Inv cx G a w A σ){s id off:Nat}(c:cx.kd s≠.box)(d:A.get s=some (.ref id off)):∃b,G.bl.l[id]?=some b/\at' a s=.pointer (some ⟨b,off,none⟩):=
 (bK hi c d rfl).JB
def NI(hi:Inv cx G a w A σ){id b:Nat}(i:G.bl.l[id]?=some b){cs:List PV}(g:σ[id]?=some cs)(c:∀p,p.isSelf=true->cs≠[p]):Gr G w b (.obj id) cs:=by
 let ⟨_,h,f⟩:=hi.obj _ _ g
 rw[i] at h;cases h;rcases f with f | ⟨t,e,l,rfl,_⟩ | rfl | ⟨gen,size,es,rfl,_⟩ | ⟨d,z,ks,vs,rfl,_⟩
 rotate_right
 ·exact absurd rfl (c _ rfl)
 ·exact f
 ·exact absurd rfl (c _ rfl)
 ·exact absurd rfl (c _ rfl)
 ·exact absurd rfl (c _ rfl)
def OW{cs es:List PV}{gen size:Nat}(h:Jl cs gen size=some es):cs=[.arrv gen size es]:=by
 unfold Jl at h
 grind
def PW(hi:Inv cx G a w A σ){id gen size:Nat}{es:List PV}(d:σ[id]?=some [.arrv gen size es]):Rw G w id gen size es:=by
 let ⟨b,_,c⟩:=hi.obj _ _ d
 rcases c with c | ⟨t,e,l,h,_⟩ | h | ⟨g,f,es',h,c⟩ | ⟨_,_,_,_,h,_⟩
 rotate_right
 ·cases h
 ·let ⟨_,_,_,_,_,_,h⟩:=c
  rcases h 0 _ rfl with⟨h,_⟩ | ⟨h,_⟩
  ·exact absurd h.free (by simp[PV.free])
  ·cases h
 ·cases h
 ·cases h
 grind
def TB{cs:List PV}(h:cs.any PV.isSelf=false):∀p,p.isSelf=true->cs≠[p]:=by grind
def jH{cs:List PV}{off n:Nat}{ag:Bool}{v:PV}(h:sub (.agg cs) off n ag=some v)(e:n≠0):∀p,p.isSelf=true->cs≠[p]:=by
 rintro p d rfl
 cases ag with
 |true=>
  simp only[sub] at h
  split at h
  ·rename_i c;have f:off=0:=by grind
   have b:n=1:=by grind
   subst f b;have:=c.2;cases p<;>simp[PV.isSelf,PV.flat] at d this
  ·cases h
 |false=>
  simp  [sub,PV.cells] at h
  grind
def oL{cs:List PV}{off:Nat}{v:PV}(h:cs[off]?=some v)(c:v.JR=true):∀p,p.isSelf=true->cs≠[p]:=by
 rintro p b rfl
 cases off with
 |zero=>simp at h;subst h;cases p<;>simp[PV.JR,PV.isSelf] at c b
 |succ off=>simp at h
def BYY(cs:List PV)(off n:Nat)(ag:Bool):X3 cs off n ag=sub (.agg cs) off n ag:=rfl
def uA(hi:Inv cx G a w A σ)(h:∀t,cx.kd t=fi.kind t)(s:cx.nt=fi.nt){o:Oper}{t:TypeId}{x:Operand}(Q:o.op=.load t x){n:Nat}{ag:Bool}(O:Cy P t=some (n,ag))(N:n≠0)
  {V:List CW} (S:Ar fi [x]=some V) (L:BK fi o.dst=true) (f:Cb pur call { dst:=o.dst,k:=.r (.ld n ag),args:=V } A σ=some (A',σ')):Gives P cx o a w A' σ':=by
 obtain⟨vs,rs,W,T,k,l⟩:=KA f;obtain⟨Z,c,e⟩:=Ac.1 T;cases e;clear T;obtain⟨y,zs,rfl,U,Y⟩:=AX S;cases Y;obtain⟨p,qs,rfl,F,hq⟩:=Av W;cases hq;cases p with
 |vptr v=>
  refine X8 hi h s Q O S L (pur:=pur) (call:=call) ?_
  unfold Cb at f ⊢;rw[W] at f ⊢;exact f
 |ref id off=>
  obtain⟨b,I,M⟩:=(Bq hi h U F rfl).JB;simp only[Dq] at c
  split at c
  ·rename_i cs r;obtain⟨v,q,e⟩:=Ac.1 c;cases e;obtain⟨u,z,E⟩:=IU (P:=P) (c:=.agg cs) O (NI hi I r (jH q N)) q
   have K:A'=JJ A o.dst v.Ag:=by
    cases g:o.dst with
    |none=>
     rw[g] at l;exact(l (by simp)).1
    |some d=>
     rw[g] at k;rw[k rfl];rfl
   rw[K];exact .inl ⟨u,w,by simp[execOp,Q,M,z],G,hi.M9 (Ext.refl _ _ _) hi.base rfl o.dst (Eg h s L) (by rw[Di];exact E.free) E.Ag (λ_ _=>Ct _)⟩
  ·cases c
 |aptr id gen size i off=>
  obtain⟨b,base,m,I,M⟩:=(Bq hi h U F rfl).KX;simp only[Dq] at c
  split at c
  ·rename_i cs r
   split at c
   ·rename_i es J
    split at c
    ·rename_i e B;obtain⟨v,q,X⟩:=Ac.1 c;cases X;have:=OW J;subst this;obtain⟨b',H,m',cs,R,z,_,_,_,h5,h6,h7,h8,h9⟩:=PW hi r;rw[I] at z;cases z;obtain⟨hl,D⟩:=h9 i e B;have C:(i+1) * size<=es.length * size:=BJ _ ((Ad.1 B).1);rw[BU] at C;obtain⟨u,z,E⟩:=QZ (P:=P) (I:=G.I) O h5 am (λj p F _=>D j p F) q
     have K:A'=JJ A o.dst v.Ag:=by
      cases g:o.dst with
      |none=>
       rw[g] at l;exact(l (by simp)).1
      |some d=>
       rw[g] at k;rw[k rfl];rfl
     rw[K];exact .inl ⟨u,w,by simp[execOp,Q,M,z],G,hi.M9 (Ext.refl _ _ _) hi.base rfl o.dst (Eg h s L) (by rw[Di];exact E.free) E.Ag (λ_ _=>Ct _)⟩
    ·cases c
   ·cases c
  ·cases c
 |_=>simp[Dq] at c
def Inv.newObj(hi:Inv cx G a w A σ){d:Nat}(K:d<cx.nt)(n:(cx.kd d).val=true){cs:Array Value}{t:TypeId}{ps:List PV}(k:Mf G.I G.bl w cs.toList ps)
  (p:∀(j:Nat) (q:PV),ps[j]?=some q->∀(G:Gh) (w:World) (z:Tag) (c:Value),EB G w z c q) :
  Sim cx (a.put (some d) (.pointer (some ⟨w.heap.size,0,none⟩))) (w.alloc (.cells cs t)) (A.set d (some (.ref σ.length 0))) (σ++[ps]):=by
 let J:=G.MM w.heap.size (λ_=>False) (some (.obj σ.length none))
 let G':Gh:={ J with bl:=⟨G.bl.l++[w.heap.size],G.bl.ab⟩ }
 have f:=Gb (λ_=>False) hi.base (.cells cs t) (λ_=>False) (some (.obj σ.length none))
 have i:Ext (λ_=>False) G G' w (w.alloc (.cells cs t)):=⟨f.I,f.same,⟨DY _ _,λ_ _ _ h=>h⟩,λ_ _ _ _=>rfl,f.fix⟩
 have b:=FD hi.base (.cells cs t) (λ_=>False) (some (.obj σ.length none))
 have u:G'.bl.l[σ.length]?=some w.heap.size:=by
  show(G.bl.l++[w.heap.size])[σ.length]?=_;rw[<-hi.len];simp
 refine⟨G',hi.step _ (some d) _ i (⟨b.keep,b.same,b.sub,b.new,b.lt,b.own,b.Klt,b.grow,hi.base.bl.trans ⟨DY _ _,λ_ _ _ h=>h⟩,b.os,b.tape,b.output⟩) (by simp) ?_ ?_ ?_ (λid g x h=>by have:=hi.abl id g x h;simp;omega)⟩
 ·intro s q v;rw[Dp] at v
  split at v
  ·rename_i l;cases v;refine .inr ?_
   rw[l.1,Ch n rfl,Gc _ _ _ (by rw[hi.size];exact K)]
   exact⟨.one (.inr (.ref u)),trivial⟩
  ·rename_i l;have E:s≠d:=λe=>l ⟨e,by have:=hi.room;omega⟩
   refine .inl ⟨v,λe=>E (Option.some.inj e).symm,λj h=>h,λN off e B C=>?_,λm I=>⟨λe=>?_,λh=>h⟩⟩
   ·cases C;rw[B] at n;simp[SK.val] at n
   ·cases e;obtain⟨H,D⟩:=cx.ents s d I;rw[D] at n;simp[SK.val] at n
 ·intro id L l;by_cases M:id<σ.length
  ·grind
  ·have:id=σ.length:=by grind
   subst this;simp at l;subst l;refine .inr ⟨w.heap.size,u,.inl ⟨if_pos rfl,?_,cs,t,heap_alloc_new' _ _,by simpa using k.1,λj r F=>.inl ⟨?_,p j r F ..⟩⟩⟩
   ·rintro x (h | ⟨_,h⟩)
    ·have:=hi.base.lt _ _ h;omega
    ·exact h
   ·obtain⟨c,o,y⟩:=k.2 j r F;rw[Bc] at o;rw[Ao,o];exact y.mono i.I i.same i.bl
 ·show(G.bl.l++[w.heap.size]).length=_;simp[hi.len]
def Aq9(hi:Inv cx G a w A σ)(f:∀t,cx.kd t=fi.kind t){o:Oper}{t:TypeId}{x:Operand}(z:o.op=.box t x){d:Nat}(h:o.dst=some d)
  (B:d<cx.nt) (n:(cx.kd d).val=true)
  {k:List CW} (C:Ar fi [x]=some k) (b:Cb pur call { dst:=some d,k:=.w .bxO,args:=k } A σ=some (A',σ')):Gives P cx o a w A' σ':=by
 obtain⟨vs,E,u,e,s,_⟩:=KA b;obtain⟨y,zs,rfl,r,m⟩:=AX C;cases m;obtain⟨p,D,rfl,v,g⟩:=Av u;cases g;simp only[sem,Fj] at e
 split at e
 ·rename_i l;cases e;rw[s rfl];have c:=(Bq hi f r v (LW l)).Ag;refine .inl ⟨.pointer (some ⟨w.heap.size,0,none⟩),w.alloc (.cells (a.eval x).cells t),?_,?_⟩
  ·simp only[execOp,z,Instr.box,newVar,newRow];rfl
  ·rw[h];exact hi.newObj B n (Mf.Tz c (by rw[Jt];exact l)) (λj q g=>Gw g)
 ·cases e
def lJ(hi:Inv cx G a w A σ){o:Oper}{t:TypeId}(n:o.op=.alloc t){d:Nat}(h:o.dst=some d)
  (q:d<cx.nt) (k:(cx.kd d).val=true) {z:PV} (e:F4 P t=some z)
  (b:Cb pur call { dst:=some d,k:=.w (.alO z.cells),args:=[] } A σ=some (A',σ')):Gives P cx o a w A' σ':=by
 let ⟨_,_,m,p,l,_⟩:=KA b
 cases m;cases p;rw[l rfl];unfold F4 at e
 split at e
 ·rename_i r i
  let ⟨j,g,c⟩:=AB.1 e
  refine .inl ⟨.pointer (some ⟨w.heap.size,0,none⟩),w.alloc (.cells j.cells t),?_,?_⟩
  ·simp only[execOp,n,Instr.alloc,Sem.run_bind,(by simp[zeroValue,typeInfo,i,g]: (zeroValue t).run P w=.ok j w),Result.andThen_ok,newVar,newRow];rfl
  ·rw[h];exact hi.newObj q k (.AU1 (MP.Qy (Gv c))) (WP c)
 ·cases e
def AqC(hi:Inv cx G a w A σ){o:Oper}{t e:TypeId}(X:o.op=.alloc t){d:Nat}(C:o.dst=some d)
  (W:d<cx.nt) (n:(cx.kd d).val=true) (B:F4 P t=some (.agg [.nilp,.nils]))
  (p:Cb pur call { dst:=some d,k:=.w (.alB t e),args:=[] } A σ=some (A',σ')):Gives P cx o a w A' σ':=by
 obtain⟨vs,rs,he,R,S,_⟩:=KA p;cases he;simp only[sem,Fj] at R;cases R;rw[S rfl];unfold F4 at B
 split at B
 ·rename_i it H;obtain⟨i,D,I⟩:=AB.1 B;have N:Rep G.I w i (.agg [.nilp,.nils]):=Gv I
  have K:i.cells=#[.pointer none,.slice none 0 0]:=by
   cases N with
   |agg Y Q=>
    rename_i cs;have z:=Q 0 _ rfl;have v:=Q 1 _ rfl
    match cs,Y,z,v with
    |⟨[x,y]⟩,_,z,v=>
     simp[Array.getD] at z v;cases z;cases v;rfl
  let Z:=G.MM w.heap.size (λ_=>False) (some (.obj σ.length none))
  let G':Gh:={ Z with bl:=⟨G.bl.l++[w.heap.size],G.bl.ab⟩ }
  have c:=Gb (λ_=>False) hi.base (.cells i.cells t) (λ_=>False) (some (.obj σ.length none))
  have b:=FD hi.base (.cells i.cells t) (λ_=>False) (some (.obj σ.length none))
  have f:Base cx G' (w.alloc (.cells i.cells t)):=⟨b.keep,b.same,b.sub,b.new,b.lt,b.own,b.Klt,b.grow,hi.base.bl.trans ⟨DY _ _,λ_ _ _ h=>h⟩,b.os,b.tape,b.output⟩
  have u:G'.bl.l[σ.length]?=some w.heap.size:=by
   show(G.bl.l++[w.heap.size])[σ.length]?=_;rw[<-hi.len];simp
  refine .inl ⟨.pointer (some ⟨w.heap.size,0,none⟩),w.alloc (.cells i.cells t),?_,G',?_⟩
  ·have k:(zeroValue t).run P w=.ok i w:=by simp[zeroValue,typeInfo,H,D]
   simp only[execOp,X,Instr.alloc,Sem.run_bind,k,Result.andThen_ok,newVar,newRow];rfl
  ·rw[C];refine hi.step _ (some d) _ (⟨c.I,c.same,⟨DY _ _,λ_ _ _ h=>h⟩,λ_ _ _ _=>rfl,c.fix⟩) f (by simp[AOp.wr,Dw]) ?_ ?_ ?_ (λid g x h=>by have:=hi.abl id g x h;simp;omega)
   ·intro s q r;simp only[AOp.wr,Option.toList,CK,Az,Dw] at r;rw[Dp] at r
    split at r
    ·rename_i l;cases r;refine .inr ?_
     rw[l.1,Ch n rfl,Gc _ _ _ (by rw[hi.size];exact W)]
     exact⟨.one (.inr (.ref u)),trivial⟩
    ·rename_i l;have L:s≠d:=λe=>l ⟨e,by have:=hi.room;omega⟩
     refine .inl ⟨r,λe=>L (Option.some.inj e).symm,λj h=>h,λd' off e M J=>?_,λm T=>⟨λe=>?_,λh=>h⟩⟩
     ·cases J;rw[M] at n;simp[SK.val] at n
     ·cases e;obtain⟨O,F⟩:=cx.ents s d T;rw[F] at n;simp[SK.val] at n
   ·intro id V l;by_cases hid:id<σ.length
    ·grind
    ·have:id=σ.length:=by grind
     subst this;simp at l;subst l;refine .inr ⟨w.heap.size,u,.inr (.inl ⟨t,e,[],rfl,if_pos rfl,?_,.pointer none,.slice none 0 0,.inl rfl,?_,⟨rfl,.inl ⟨rfl,rfl⟩⟩,λg U=>by cases U⟩)⟩
     ·rintro x (h | ⟨_,h⟩)
      ·have:=hi.base.lt _ _ h;omega
      ·exact h
     ·rw[heap_alloc_new',K]
   ·show(G.bl.l++[w.heap.size]).length=_;simp[hi.len]
 ·cases B
def Inv.Pp{G':Gh}{i:World}{X:Tag->Prop}{T:Nat->Prop}{id:Nat}{f:List PV}(hi:Inv cx G a w A σ)(b:Option Nat)(v:Value)(r:∀u,b=some u->(cx.kd u).val=true)
  (K:id<σ.length) (z:Jp G' i id f) (C:Ext X G G' w i) (d:Base cx G' i) (q:G'.bl.l=G.bl.l) (E:∀k g x,G'.bl.ab k g=some x->k<σ.length)
  (M:∀l,X l->(∃j,l=.obj id j)\/∃t,l=.slot t none/\T t) (L:∀t,T t->(cx.kd t).val=true) (J:A'.length=A.length)
  (D:∀t p,A'.get t=some p->(¬T t/\b≠some t/\A.get t=some p)\/Ei cx G' (a.put b v) i t p):Inv cx G' (a.put b v) i A' (σ.set id f):=by
 have c:∀m,(cx.kd m).val=false->b≠some m/\¬T m:=λm s=>by grind
 refine hi.step X b v C d J ?_ ?_ (by rw[q,C9];exact hi.len) (λk g x h=>by grind)
 ·intro t p I;rcases D t p I with⟨O,H,B⟩ | h
  ·refine .inl ⟨B,H,λj N=>?_,λF off e o=>(c F (by rw[o];rfl)).1,λm s=>?_⟩
   ·grind
   ·obtain⟨y,n⟩:=cx.ents t m s;have:=c m (by rw[n];rfl)
    grind
  grind
 grind
def Inv.Pq{G':Gh}{e:World}{X:Tag->Prop}{T:Nat->Prop}{id:Nat}{f:List PV}(hi:Inv cx G a w A σ)(b:Option Nat)(v:Value)(g:∀u,b=some u->(cx.kd u).val=true)
  (i:id<σ.length) (d:Jp G' e id f) (m:Ext X G G' w e) (c:Base cx G' e) (h:G'.bl=G.bl)
  (l:∀k,X k->(∃j,k=.obj id j)\/∃t,k=.slot t none/\T t) (q:∀t,T t->(cx.kd t).val=true) (n:A'.length=A.length)
  (o:∀t p,A'.get t=some p->(¬T t/\b≠some t/\A.get t=some p)\/Ei cx G' (a.put b v) e t p):Inv cx G' (a.put b v) e A' (σ.set id f):=
 hi.Pp _ v g i d m c (by grind) (by rw[h];exact hi.abl) l q n o
def Ud{cs:Array Value}{b:List Value}{k:Nat}(e:k+b.length<=cs.size)(j:Nat):
  ((cs.toList.take k++b++cs.toList.drop (k+b.length)).toArray).getD j undef=if k<=j/\j<k+b.length then b.getD (j - k) undef else cs.getD j undef:=by
 have c:(cs.toList.take k).length=k:=by grind
 rw[Ao,Dz,AC];by_cases d:j<k
 ·rw[AR am,CO,if_pos d,if_neg am,Bc,Ao]
 ·rw[Aq am,c]
  by_cases f:j<k+b.length
  ·grind
  ·rw[Aq am,CY,if_neg am,show k+b.length+(j - k - b.length)=j from am,Bc,Ao]
def Ol{ps b:List PV}{k:Nat}(d:k+b.length<=ps.length)(j:Nat):(Fw ps k b)[j]?=if k<=j/\j<k+b.length then b[j - k]? else ps[j]?:=by
 have c:(ps.take k).length=k:=by grind
 unfold Fw
 grind
def uu(hi:Inv cx G a w A σ)(hkd:∀t,cx.kd t=fi.kind t){o:Oper}{t:TypeId}{s:Nat}{x:Operand}(ho:o.op=.store t (.tmp s) x)(hod:o.dst=none)(hnb:cx.kd s≠.box){n:Nat}{ag:Bool}(hn:Cy P t=some (n,ag))
  {az:List CW} (Z:Ar fi [x]=some az) (hrun:Cb pur call { dst:=none,k:=.w (.st n),args:=.slot s::az } A σ=some (A',σ')):Gives P cx o a w A' σ':=by
 obtain⟨vs,rs,he,v,hA,_⟩:=KA hrun;obtain⟨y,zs,rfl,hy,hz⟩:=AX Z;cases hz;obtain⟨c,qs,rfl,_,u⟩:=Av he;obtain⟨p,qs,rfl,hp,u⟩:=Av u;cases u;obtain⟨hg,_⟩:=DW he;cases c with
 |ref id off=>
  simp only[sem,Fj] at v
  split at v
  ·rename_i ps E
   split at v
   ·rename_i hf;obtain⟨M,hf0,H,V,hf4⟩:=hf;cases v;obtain⟨b,Y,hv⟩:=cK hi hnb hg;obtain⟨B,S,cs,O,l,hsz,K⟩:=NI hi Y E (TB hf4);have z:=(Bq hi hkd hy hp (LW H)).Ag;have I:p.Ag.okc=true:=by rw[Jt];exact H
    have F:=Mf.Tz z I;have J:(a.eval x).cells.size=n:=by have:=F.1;rw[Eb,M] at this;simpa using this
    let g:Array Value:=(cs.toList.take off++(a.eval x).cells.toList++cs.toList.drop (off+(a.eval x).cells.toList.length)).toArray
    have f:=Jy (G:=G) (w:=w) (X:=λL=>L=.obj id none) B S rfl g
    have C:(Instr.storeAt t (.pointer (some ⟨b,off,none⟩)) (a.eval x)).run P w=.ok () (w.setRow b g):=
     GQ hn l J (Ty z I (by rw[JN];exact V)) am
    have Q:a.eval (.tmp s)=.pointer (some ⟨b,off,none⟩):=hv;rw[hA rfl];refine .inr ⟨w.setRow b g,by simp[execOp,ho,Q,C],G,?_⟩
    rw[hod];refine hi.Pq (X:=λL=>L=.obj id none) (T:=λ_=>False) none undef (by simp) (Ad.1 E).1 ⟨b,Y,.inl ?_⟩ f (IZ hi.base B S _) rfl (λL h=>.inl ⟨none,h⟩) (λ_ h=>h.elim) (by rw[Em]) ?_
    ·refine Le B S (setRow_heap _ _ _ _ _ _ l) hsz (by rw[Eb];omega) (by rw[Eb,M];simpa using J) ?_ ?_
     ·intro j q u _;exact(K j q u).ext f (by simp)
     ·intro j q u;obtain⟨c,Z,hr⟩:=F.2 j q u;exact⟨c,Z,.inl ⟨hr.mono f.I f.same f.bl,Gw u ..⟩⟩
    ·intro r q u;exact .inl ⟨λh=>h,by simp,u⟩
   ·cases v
  ·cases v
 |aptr id gen size i off=>
  simp only[sem,Fj] at v
  split at v
  ·rename_i ps E
   split at v
   ·rename_i es hes
    split at v
    ·rename_i e he'
     split at v
     ·rename_i hf;obtain⟨M,H,V⟩:=hf;obtain⟨e',hup,ee⟩:=Ac.1 v;cases ee;have:=OW hes;subst this;obtain⟨b0,d,n0,Y,hv⟩:=(bK hi hnb hg rfl).KX;obtain⟨b',base,m,cs,O,h1,h2,B,S,l,h6,h7,h8,h9⟩:=PW hi E;rw[Y] at h1;cases h1;obtain⟨hl,K⟩:=h9 i e he';have hlt:=(Ad.1 he').1;have X:(i+1) * size<=es.length * size:=BJ _ hlt;rw[BU] at X;obtain⟨hce,hle⟩:=NA hup;have z:=(Bq hi hkd hy hp (LW H)).Ag;have I:p.Ag.okc=true:=by rw[Jt];exact H
      have F:=Mf.Tz z I;have R:p.Ag.cells.length=n:=by rw[Eb,M]
      have J:(a.eval x).cells.size=n:=by have:=F.1;rw[R] at this;simpa using this
      have D:(a.eval x).cells.toList.length=n:=by simpa using J
      let k:=d+i * size+off
      let g:Array Value:=(cs.toList.take k++(a.eval x).cells.toList++cs.toList.drop (k+(a.eval x).cells.toList.length)).toArray
      have W:k+n<=cs.size:=by show d+i * size+off+n<=cs.size;omega
      have f:=Jy (G:=G) (w:=w) (X:=λL=>L=.obj id none) B S rfl g
      have C:(Instr.storeAt t (.pointer (some ⟨b0,k,none⟩)) (a.eval x)).run P w=.ok () (w.setRow b0 g):=
       GQ hn l J (Ty z I (by rw[JN];exact V)) W
      have Q:a.eval (.tmp s)=.pointer (some ⟨b0,k,none⟩):=hv;rw[hA rfl];refine .inr ⟨w.setRow b0 g,by simp[execOp,ho,Q,C],G,?_⟩
      rw[hod];obtain⟨bo,hbo,_⟩:=hi.obj id _ E
      refine hi.Pq (X:=λL=>L=.obj id none) (T:=λ_=>False) none undef (by simp) (Ad.1 E).1
       ⟨bo,hbo,.inr (.inr (.inr (.inl ⟨gen,size,es.set i e',rfl,b0,d,n0,g,O,Y,h2,B,S,setRow_heap _ _ _ _ _ _ l,?_,h7,by rw[C9];exact h8,?_⟩)))⟩ f (IZ hi.base B S _) rfl (λL h=>.inl ⟨none,h⟩) (λ_ h=>h.elim) (by rw[Em]) ?_
      ·show g.size=n0;simp only[g,Cq,Ae,AA,Aw,D,Array.length_toList];omega
      ·intro i' e'' N;rw[EG] at N
       split at N
       ·rename_i U;subst U;cases N;rw[hce];refine⟨by unfold Fw;simp only[Ae,AA,Aw];omega,λj q u=>?_⟩
        rw[Ol hle] at u;show BF G.I G.bl _ (g.getD (d+i * size+j) undef) q;rw[show g.getD (d+i * size+j) undef=_ from Ud (by rw[D];exact W) _]
        split at u
        ·rename_i Z;obtain⟨c,hc1,hc2⟩:=F.2 _ _ u;rw[if_pos (by show d+i * size+off<=_/\_<d+i * size+off+_;rw[D,<-R];omega)]
         rw[show d+i * size+j - k=j - off by show d+i * size+j - (d+i * size+off)=_;omega,BA,hc1]
         exact hc2.mono f.I f.same f.bl
        ·rename_i Z;rw[if_neg (by show ¬(d+i * size+off<=_/\_<d+i * size+off+_);rw[D,<-R];omega)]
         exact(K j q u).mono f.I f.same f.bl
       ·rename_i U;obtain⟨q1,q2⟩:=h9 i' e'' N;refine⟨q1,λj q u=>?_⟩
        have hj:j<size:=by rw[<-q1];exact(Ad.1 u).1
        show BF G.I G.bl _ (g.getD (d+i' * size+j) undef) q;rw[show g.getD (d+i' * size+j) undef=_ from Ud (by rw[D];exact W) _]
        rw[if_neg]
        ·exact(q2 j q u).mono f.I f.same f.bl
        ·show ¬(d+i * size+off<=_/\_<d+i * size+off+_);rw[D];rcases Nat.lt_or_gt_of_ne U with hlt' | hgt'
         ·have:(i+1) * size<=i' * size:=BJ _ hlt';rw[BU] at this;omega
         ·have:(i'+1) * size<=i * size:=BJ _ hgt';rw[BU] at this;omega
      ·intro r q u;exact .inl ⟨λh=>h,by simp,u⟩
     ·cases v
    ·cases v
   ·cases v
  ·cases v
 |_=>simp[sem,Fj] at v
def mI{c:PV}{r:List (Option PV)×Sto}(h:Fj pur call .ldo [c] σ=some r):∃id off cs v,c=.ref id off/\σ[id]?=some cs/\cs[off]?=some v/\v.JR=true/\r=([some v],σ.set id (Fw cs off [v.Ag])):=by
 cases c with
 |ref id off=>
  simp  [Fj] at h
  split at h
  ·rename_i cs b
   split at h
   ·rename_i v d;cases v<;>first | grind | (cases h;exact⟨_,_,cs,_,rfl,b,d,rfl,rfl⟩)
   ·cases h
  ·cases h
 |_=>simp[Fj] at h
def zV(hi:Inv cx G a w A σ)(F:∀t,cx.kd t=fi.kind t)(L:cx.nt=fi.nt){o:Oper}{t:TypeId}{x:Operand}{u:Nat}(ho:o.op=.load t x)(J:o.dst=some u){n:Nat}(U:Cy P t=some (n,false))
  (hu:Dn fi u=true) {Q:List CW} (W:Ar fi [x]=some Q) (H:Cb pur call { dst:=some u,k:=.w .ldo,args:=Q } A σ=some (A',σ')):Gives P cx o a w A' σ':=by
 obtain⟨vs,rs,he,O,hA,_⟩:=KA H;obtain⟨y,zs,rfl,hy,hz⟩:=AX W;cases hz;obtain⟨c,qs,rfl,Y,p⟩:=Av he;cases p;simp only[sem] at O;obtain⟨id,off,ps,v,rfl,C,I,g,e⟩:=mI O;cases e;have s:=FU F L hu;obtain⟨b,S,K⟩:=(Bq hi F hy Y rfl).JB;have d:=NI hi S C (oL I g)
 have E:sub (.agg ps) off n false=some v:=by
  simp only[sub,PV.cells,I];rw[if_neg];intro e;cases v<;>simp[PV.isAgg,PV.isSelf,PV.JR] at e g
 obtain⟨Z,B,hr2⟩:=IU (P:=P) (c:=.agg ps) U d E;have k:=d;obtain⟨hω,hI,cs,T,z,hsz,D⟩:=d;have M:off<cs.size:=by grind
 have hx:Z=cs.getD off undef:=by
  have:(Instr.loadAt t (.pointer (some ⟨b,off,none⟩))).run P w=.ok (cs.getD off undef) w:=by
   have N:w.cell? ⟨b,off,none⟩=some (cs.getD off undef):=by simp[World.cell?,z,Array.getD,M]
   simp[Instr.loadAt,Instr.sureAddr,loadVar,Jr U,N]
  rw[this] at B;cases B;rfl
 subst hx;obtain⟨G',e1,V,l,m,X⟩:=ZO (t1:=.slot u none) hi.base ((D off v I).rep (NM g)).2;rw[hA rfl];refine .inl ⟨cs.getD off undef,w,by simp[execOp,ho,K,B],G',?_⟩
 rw[J];refine hi.Pq (X:=λR=>R=.obj id (some off)) (T:=λ_=>False) (some u) _ (λu' e=>by cases e;exact s.2) (Ad.1 C).1 ⟨b,by rw[V];exact S,.inl ?_⟩ l m V (λR h=>.inl ⟨_,h⟩) (λ_ h=>h.elim) (by rw[Em]) ?_
 ·exact UF (NM g) k I e1 l (λi j e=>by cases e;rfl)
 ·intro r q p;simp only[AOp.wr,Option.toList,CK,Az,Dw] at p;rw[Dp] at p
  split at p
  ·rename_i h;cases p;refine .inr ?_
   rw[h.1,Ch s.2 (Kk g),Gc _ _ _ (by rw[hi.size];exact s.1)]
   grind
  ·rename_i h;exact .inl ⟨λh=>h,λe=>h ⟨(Option.some.inj e).symm,by have:=hi.room;omega⟩,p⟩
def zz{c v:PV}{r:List (Option PV)×Sto}(h:Fj pur call .sto [c,v] σ=some r):∃id off cs,c=.ref id off/\σ[id]?=some cs/\v.JR=true/\off+1<=cs.length/\cs.any PV.isSelf=false/\r=([some v.Ag],σ.set id (Fw cs off [v])):=by
 cases c with
 |ref id off=>
  simp only[Fj] at h
  split at h
  ·rename_i cs b;cases v<;>first | (cases h) | (dsimp  at h;split at h<;>first | grind | (rename_i d;cases h;exact⟨_,_,_,rfl,b,rfl,d.1,d.2,rfl⟩))
  ·cases h
 |_=>simp[Fj] at h
def zG(hi:Inv cx G a w A σ)(hkd:∀t,cx.kd t=fi.kind t)(Y:cx.nt=fi.nt){o:Oper}{t:TypeId}{s u:Nat}(ho:o.op=.store t (.tmp s) (.tmp u))(W:o.dst=none)(S:cx.kd s≠.box){n:Nat}{ag:Bool}(hn:Cy P t=some (n,ag))(U:n=1)
  (hu:Dn fi u=true) (L:Cb pur call { dst:=none,k:=.w .sto,args:=[.slot s,.slot u],ex:=[u] } A σ=some (A',σ')):Gives P cx o a w A' σ':=by
 subst U;obtain⟨vs,rs,he,hs,hA,_⟩:=KA L;obtain⟨c,qs,rfl,_,k⟩:=Av he;obtain⟨p,qs,rfl,hp,Z⟩:=Av k;cases Z;obtain⟨hgs,_⟩:=DW he;simp only[sem] at hs;obtain⟨id,off,ps,rfl,H,l,K,X,e⟩:=zz hs;cases e;have D:=FU hkd Y hu;obtain⟨b,hb,J⟩:=cK hi S hgs;obtain⟨V,T⟩:=MU hi D.2 hp (Kk l);have i:=fT V l;obtain⟨G',e1,e2,g,y,I⟩:=ZO (t1:=.obj id (some off)) hi.base T;obtain⟨hω,hI,cs,elem,v,M,O⟩:=NI hi hb H (TB X);have m:G'.ω b=some (.obj id none):=(g.fix b _ hω (by simp)).1
 have F:∀x,¬G'.I b x:=by rw[e1];exact hI
 have C:=fQ i l
 let z:Array Value:=(cs.toList.take off++(at' a u).cells.toList++cs.toList.drop (off+(at' a u).cells.toList.length)).toArray
 have f:=Jy (G:=G') (w:=w) (X:=λE=>E=.obj id none) m F rfl z
 have d:Ext (λE=>E=.slot u none\/E=.obj id none) G G' w (w.setRow b z):=(g.weaken (λ_ h=>.inl h)).trans (f.weaken (λ_ h=>.inr h))
 have B:(Instr.storeAt t (.pointer (some ⟨b,off,none⟩)) (at' a u)).run P w=.ok () (w.setRow b z):=
  GQ hn v (by rw[C];rfl) (Pn i (Xh l)) (by rw[M];exact K)
 have R:a.eval (.tmp s)=.pointer (some ⟨b,off,none⟩):=J;have N:a.eval (.tmp u)=at' a u:=rfl;rw[hA rfl];refine .inr ⟨w.setRow b z,by simp[execOp,ho,R,N,B],G',?_⟩
 rw[W];refine hi.Pq (X:=λE=>E=.slot u none\/E=.obj id none) (T:=λt=>t=u) none undef (by simp) (Ad.1 H).1 ⟨b,by rw[e2];exact hb,.inl ?_⟩ d (IZ y m F _) e2 ?_ (λt h=>by rw[h];exact D.2) (by rw[Em]) ?_
 ·refine Le m F (setRow_heap _ _ _ _ _ _ v) M K (by rw[C];rfl) ?_ ?_
  ·intro j q k _;exact((O j q k).ext g (by simp)).ext f (by simp)
  ·intro j q k;cases j with
   |zero=>
    simp at k;subst k;exact⟨at' a u,by rw[C];rfl,.inl ⟨.one (.inl (i.mono d.I d.same)),I.ext f (by simp)⟩⟩
   |succ j=>simp at k
 ·grind
 ·intro r q k;simp only[AOp.wr,Option.toList,CK,Az,Bn,Dw] at k;rw[Dp] at k
  split at k
  ·rename_i h;cases k;refine .inr ?_
   rw[h.1,Ch D.2 (by rw[Di];exact Kk l)]
   exact⟨.one (.inl (i.mono d.I d.same).Ag),Ct p⟩
  ·rename_i h1;exact .inl ⟨λe=>h1 ⟨e,by have:=hi.room;omega⟩,by simp,k⟩
end
section
variable{P:Program}{pur:FuncId->Bool}{call:Caller}{fi:FI}{cx:Cx}{G:Gh}{a:Act}{w:World}{A A':Frm}{σ σ':Sto}
def BF.Ck{I:Imm}{bl:Bl}{v:Value}{p:PV}(h:BF I bl w v p):BF I bl w v p.Ck:=by
 cases p with
 |slice b c es=>exact h.Ag
 |_=>exact h
def aD(p:PV):p.Ag.cells=p.cells.map PV.Ck:=by cases p<;>rfl
def ME(I:Imm)(bl:Bl)(w:World)(size:Nat)(cs:List Value)(es:List PV):Prop:=
 cs.length=es.length * size/\(∀(i:Nat) (e:PV),es[i]?=some e->e.cells.length=size)/\
 ∀(i:Nat) (e:PV) (j:Nat) (p:PV),es[i]?=some e->e.cells[j]?=some p->∃c,cs[i * size+j]?=some c/\BF I bl w c p
def ME.wo{I:Imm}{bl:Bl}{size:Nat}{cs:List Value}{es:List PV}(h:Jm I w size cs es):ME I bl w size cs es:=
 ⟨h.1,h.2.1,λi e j p d f=>let ⟨c,b,g⟩:=h.2.2 i e j p d f;⟨c,b,.one (.inl g)⟩⟩
def ME.mono{I I':Imm}{bl d:Bl}{w f:World}{size:Nat}{cs:List Value}{es:List PV}(h:ME I bl w size cs es)(n:∀b x,I b x->I' b x)(k:Same I w f)(m:bl.le d):ME I' d f size cs es:=
 ⟨h.1,h.2.1,λi e j p q l=>let ⟨c,g,o⟩:=h.2.2 i e j p q l;⟨c,g,o.mono n k m⟩⟩
def ME.nil(I:Imm)(bl:Bl)(w:World)(size:Nat):ME I bl w size [] []:=⟨by simp,by simp,by simp⟩
def ME.append{I:Imm}{bl:Bl}{size:Nat}{cs f:List Value}{es fs:List PV}(h:ME I bl w size cs es)(k:ME I bl w size f fs):ME I bl w size (cs++f) (es++fs):=by
 refine⟨by simp[h.1,k.1,Cf],λi e b=>?_,λi e j p b d=>?_⟩
 ·by_cases hi:i<es.length
  ·rw[AR hi] at b;exact h.2.1 i e b
  ·rw[Aq am] at b;exact k.2.1 _ e b
 ·by_cases hi:i<es.length
  ·rw[AR hi] at b;have⟨c,_,_⟩:=h.2.2 i e j p b d
   grind
  ·rw[Aq am] at b
   let ⟨c,g,_⟩:=k.2.2 _ e j p b d
   have l:es.length * size<=i * size:=BJ _ am
   rw[Aq (by rw[h.1];omega),h.1]
   rw[Nat.sub_mul] at g
   grind
def ME.Ag{I:Imm}{bl:Bl}{size:Nat}{cs:List Value}{es:List PV}(h:ME I bl w size cs es):ME I bl w size cs (es.map PV.Ag):=by
 refine⟨by rw[Ap];exact h.1,λi e d=>?_,λi e j p d f=>?_⟩
 ·rw[Al] at d;obtain⟨k,b,rfl⟩:=Ac.1 d;rw[Eb];exact h.2.1 i _ b
 ·rw[Al] at d;obtain⟨k,b,rfl⟩:=Ac.1 d;rw[aD,Al] at f;obtain⟨q,m,rfl⟩:=Ac.1 f
  let ⟨c,g,l⟩:=h.2.2 i _ j q b m
  exact⟨c,g,l.Ck⟩
def vS{I:Imm}{bl:Bl}{c:Value}{p:PV}(h:BF I bl w c p)(b:p.one=true):c.oneCell'=true:=by
 cases h with
 |one h=>
  rcases h with h | h
  ·exact R4 h b
  ·cases h<;>rfl
 |func _ _ _ _=>rfl
 |tuple _ _=>cases b
 |aggr _ _=>cases b
def vP{I:Imm}{bl:Bl}{size:Nat}(d:0<size){cs:List Value}{es:List PV}(h:ME I bl w size cs es)(b:es.all PV.ones=true):∀u∈cs,u.oneCell'=true:=by
 intro u j;rw[Au] at b
 let ⟨k,f⟩:=BP.1 j
 have hi  := (Fe d).2 (by have:=(Ad.1 f).1;rw[h.1] at this;exact this)
 have g:=Af hi
 let ⟨c,e,i⟩:=h.2.2 _ _ _ _ g (Af (by rw[h.2.1 _ _ g];exact(Nat.mod_lt _ d): k % size<(es[k / size]).cells.length))
 rw[show k / size * size+k % size=k from by rw[Eh];exact Nat.div_add_mod k _,f] at e
 cases e;exact vS i (Au.1 (b _ (Cg hi)) _ (by simp))
def OC{id gen size off len b base n:Nat}{es:List PV}{cs:Array Value}{o:TypeId}(C:0<size)(g:w.heap[b]?=some (.cells cs o (0,0)))(F:base+es.length * size<=cs.size)
  (c:∀(i:Nat) (e:PV),es[i]?=some e->e.cells.length=size/\∀(j:Nat) (p:PV),e.cells[j]?=some p->BF G.I G.bl w (cs.getD (base+i * size+j) undef) p) (z:off+len<=es.length) :
  ∃u:List Value,ME G.I G.bl w size u ((es.drop off).take len)/\∀(j:Nat) (v:Value),u[j]?=some v->w.cell? ⟨b,base+off * size+j,none⟩=some v:=by
 have l:((es.drop off).take len).length=len:=by rw[AA,Aw];omega
 have d:∀k,k<len * size->((List.range (len * size)).map λk=>cs.getD (base+off * size+k) undef)[k]?=some (cs.getD (base+off * size+k) undef):=by simp_all
 have m:∀(i:Nat) (e:PV),((es.drop off).take len)[i]?=some e->i<len/\es[off+i]?=some e:=by grind
 have h:(off+len) * size<=es.length * size:=BJ _ z;rw[Cf] at h;refine⟨(List.range (len * size)).map λk=>cs.getD (base+off * size+k) undef,⟨by simp[l],λi e r=>(c _ _ (m i e r).2).1,λi e j p r t=>?_⟩,λk v q=>?_⟩
 ·obtain⟨D,B⟩:=m i e r;obtain⟨x,y⟩:=c _ _ B;have E:j<size:=by rw[<-x];exact(Ad.1 t).1
  have f:i * size+j<len * size:=by
   have:(i+1) * size<=len * size:=BJ _ am
   rw[BU] at this;omega
  refine⟨_,d _ f,?_⟩
  have:=y j p t;rw[Cf] at this
  grind
 ·have s:k<len * size:=by have:=(Ad.1 q).1;simpa using this
  rw[d k s] at q;cases q;have f:base+off * size+k<cs.size:=am
  simp[World.cell?,g,Array.getD,f]
def SX{id gen off len size:Nat}{es:List PV}(h:JM σ id gen off len size=some es):∃fs,σ[id]?=some [.arrv gen size fs]/\off+len<=fs.length/\es=(fs.drop off).take len:=by
 unfold JM at h
 split at h
 ·rename_i cs c
  split at h
  ·rename_i fs b
   split at h
   ·rw[OW b] at c
    grind
   ·cases h
  ·cases h
 ·cases h
def ND(hi:Inv cx G a w A σ){size:Nat}(f:0<size){xT:TypeId}(g:∃z,P.underlying xT=some (.slice z)){v:Value}{x:PV}(r:BF G.I G.bl w v x){xs:List PV}(i:I7 size σ x=some xs)
  (d:xs.all PV.ones=true):∃c,Src P size xT v xs.length c w/\ME G.I G.bl w size c xs:=by
 cases x with
 |slice O N es=>
  obtain⟨c,m,q⟩:=SF (P:=P) (G:=G) f (.inl g) r (xs:=xs) i d;exact⟨c,m,.wo q⟩
 |nils=>
  obtain⟨c,m,q⟩:=SF (P:=P) (G:=G) f (.inl g) r (xs:=xs) i d;exact⟨c,m,.wo q⟩
 |empt=>
  obtain⟨J,rfl⟩:=r.JS;cases i;obtain⟨z,s⟩:=g;exact⟨[],Src.ofSlice w s J 0 0 [] (by simp) (by simp) (λu B=>by cases B),ME.nil _ _ _ _⟩
 |arr id gen off len N=>
  simp only[I7] at i
  split at i
  ·rename_i p;subst p;obtain⟨fs,C,K,rfl⟩:=SX i;obtain⟨V,t,M,cap,U,S,Q,D,R,y,rfl⟩:=r.JF;obtain⟨b,base,n,cs,F,m,q,H,X,k,T,Y,W,L⟩:=PW hi C;rw[Q] at m;cases m;obtain⟨E,e,l⟩:=OC (G:=G) (id:=id) (gen:=gen) (n:=M) (off:=off) (len:=len) f k am L K
   have h:((fs.drop off).take len).length=len:=by grind
   have o:=e.1;rw[h] at o;refine⟨E,?_,e⟩
   rw[h];obtain⟨z,s⟩:=g;refine Src.ofSlice w s _ len cap E o (λj u B=>?_) (vP f e d)
   have I:0<len:=by grind
   obtain⟨rfl,rfl⟩:=y am
   rw[FM];exact l j u B
  ·cases i
 |_=>simp[I7] at i
def Mx{I:Imm}{bl:Bl}{g:World}{size base:Nat}{cs:Array Value}{d:List Value}{es:List PV}(b:ME I bl g size d es)(l:∀(k:Nat) (v:Value),d[k]?=some v->cs.getD (base+k) undef=v):
  ∀(i:Nat) (e:PV),es[i]?=some e->e.cells.length=size/\∀(j:Nat) (p:PV),e.cells[j]?=some p->BF I bl g (cs.getD (base+i * size+j) undef) p:=by
 intro i e f;refine⟨b.2.1 i e f,λj p h=>?_⟩
 let ⟨c,_,_⟩:=b.2.2 i e j p f h
 grind
def Bl.gen(bl:Bl)(id gen:Nat)(x:Nat×Nat×Nat):Bl:=⟨bl.l,λk g=>if k=id/\g=gen then some x else bl.ab k g⟩
def Bl.TL{bl:Bl}{id gen:Nat}(h:bl.ab id gen=none)(x:Nat×Nat×Nat):bl.le (bl.gen id gen x):=by
 refine⟨List.prefix_rfl,λk g y b=>?_⟩
 show(if _ then _ else _)=_
 grind
def Bl.jQ(bl:Bl)(id gen:Nat)(x:Nat×Nat×Nat):(bl.gen id gen x).ab id gen=some x:=if_pos (by simp)
def Bl.Mt(bl:Bl){id gen k g:Nat}(x:Nat×Nat×Nat)(h:¬(k=id/\g=gen)):(bl.gen id gen x).ab k g=bl.ab k g:=if_neg h
def OL(b:Array Value)(c:List Value)(d:Array Value)(h:b=c.toArray++d):∀(k:Nat) (v:Value),c[k]?=some v->b.getD (0+k) undef=v:=by
 intro k v e;rw[BB,h,Ao,Ej (by grind),Dz,e];rfl
def R6(hi:Inv cx G a w A σ){d:Nat}(r:d<cx.nt/\(cx.kd d).val=true){o:Oper}(O:o.dst=some d){f:World}(Q:Ext (λ_=>False) G G w f)(B:Base cx G f)
  {b:Array Value} {e:TypeId} {size len cap:Nat} {es:List PV} (R:0<size) (u:len<=cap) (E:b.size=cap * size) (H:es.length=len)
  (F:∀(i:Nat) (e:PV),es[i]?=some e->e.cells.length=size/\∀(j:Nat) (p:PV),e.cells[j]?=some p->BF G.I G.bl w (b.getD (0+i * size+j) undef) p)
  (X:(execOp a.eval o).run P w=.ok (.value (.slice (some ⟨f.heap.size,0,none⟩) len cap)) (f.alloc (.cells b e))) :
  Gives P cx o a w (A.set d (some (.arr σ.length 0 0 len size))) (σ++[[.arrv 0 size es]]):=by
 let Y:=G.MM f.heap.size (λ_=>False) (some (.obj σ.length none))
 let D:Bl:=⟨G.bl.l++[f.heap.size],(G.bl.gen σ.length 0 (f.heap.size,0,b.size)).ab⟩
 let G':Gh:={ Y with bl:=D }
 have n:∀g,G.bl.ab σ.length g=none:=by
  intro g;cases h:G.bl.ab σ.length g with
  |none=>rfl
  |some y=>have:=hi.abl _ _ _ h;omega
 have s:G.bl.le D:=⟨DY _ _,(Bl.TL (n 0) _).2⟩;have k:=Q.trans (Gb (λ_=>False) B (.cells b e) (λ_=>False) (some (.obj σ.length none)))
 have l:Ext (λ_=>False) G G' w (f.alloc (.cells b e)):=⟨k.I,k.same,s,λid I _ g=>Bl.Mt _ _ (by rw[hi.len] at I;omega),k.fix⟩
 have c:=FD B (.cells b e) (λ_=>False) (some (.obj σ.length none))
 have z:Base cx G' (f.alloc (.cells b e)):=⟨c.keep,c.same,c.sub,c.new,c.lt,c.own,c.Klt,c.grow,hi.base.bl.trans s,c.os,c.tape,c.output⟩
 have M:G'.bl.l[σ.length]?=some f.heap.size:=by
  show(G.bl.l++[f.heap.size])[σ.length]?=_;rw[<-hi.len];simp
 have v:G'.bl.ab σ.length 0=some (f.heap.size,0,b.size):=Bl.jQ ..;refine .inl ⟨_,_,X,G',?_⟩
 rw[O];refine hi.step (λ_=>False) (some d) _ l z (by simp) ?_ ?_ ?_ ?_
 ·intro t q J;rw[Dp] at J
  split at J
  ·rename_i h;cases J;refine .inr ?_
   rw[h.1,Ch r.2 rfl,Gc _ _ _ (by rw[hi.size];exact r.1)]
   exact⟨.one (.inr (.arr v u (by rw[BB,BB,E];exact Ai _) (λ_=>⟨rfl,am⟩))),trivial⟩
  ·rename_i h;refine .inl ⟨J,λe=>h ⟨(Option.some.inj e).symm,by have:=hi.room;have:=r.1;omega⟩,λ_ h=>h,λd' off U L N=>?_,λm hm=>⟨λU=>?_,λh=>h⟩⟩
   ·cases N;have:=r.2;rw[L] at this;simp[SK.val] at this
   ·cases U;obtain⟨T,K⟩:=cx.ents t d hm;have:=r.2;rw[K] at this;simp[SK.val] at this
 ·intro id W C;by_cases I:id<σ.length
  ·grind
  ·have:id=σ.length:=by
    have:=(Ad.1 C).1;simp at this;omega
   subst this;simp at C;subst C
   refine .inr ⟨f.heap.size,M,.inr (.inr (.inr (.inl ⟨0,size,_,rfl,f.heap.size,0,b.size,b,e,v,λg hg=>?_,if_pos rfl,?_,heap_alloc_new' _ _,rfl,R,?_,
    λi e S=>⟨(F i e S).1,λj p Z=>((F i e S).2 j p Z).mono l.I l.same l.bl⟩⟩)))⟩
   ·exact(Bl.Mt _ _ am).trans (n g)
   ·rintro x (h | ⟨_,h⟩)
    ·have:=B.lt _ _ h;omega
    ·exact h
   ·rw[H,BB,E];exact BJ _ u
 ·show(G.bl.l++[f.heap.size]).length=_;simp[hi.len]
 ·intro id g y V;show id<(σ++_).length;simp only[Ae,Ah,Ba];by_cases h:id=σ.length/\g=0
  ·omega
  ·have:=hi.abl id g y ((Bl.Mt _ _ h).symm.trans V);omega
def uH(hi:Inv cx G a w A σ)(hkd:∀t,cx.kd t=fi.kind t)(hnt:cx.nt=fi.nt){o:Oper}{c:Call}(ho:o.op=.call c)(hb:c.callee=.builtin .append)
  {sT xT e:TypeId} {d:Nat} {y1 y:Operand} (hargs:c.args=#[y1,y]) (htys:c.argTypes=#[sT,xT]) (hod:o.dst=some d)
  (hsT:P.underlying sT=some (.slice e)) (hxT:∃e',P.underlying xT=some (.slice e')) {it:TypeInfo} (hit:P.info? e=some it)
  (hs0:0<it.size) (hby:it.bytes<=4096) (hz:(it.zero.map (·.cells.size))=some it.size)
  {az:List CW} (hc:Ar fi [y1,y]=some az) (hd:Dn fi d=true)
  (hrun:Cb pur call { dst:=some d,k:=.w (.Gj it.size),args:=az } A σ=some (A',σ')):Gives P cx o a w A' σ':=by
 obtain⟨vs,rs,he,hsem,hA,_⟩:=KA hrun;obtain⟨z1,zs,rfl,hy1,hz1⟩:=AX hc;obtain⟨z2,zs,rfl,hy2,hz2⟩:=AX hz1;cases hz2;obtain⟨s,qs,rfl,hs,hq⟩:=Av he;obtain⟨x,qs,rfl,hx,hq⟩:=Av hq;cases hq;have hdv:=FU hkd hnt hd;obtain⟨z,hz',hzs⟩:=Ac.1 hz;simp only[sem,Fj] at hsem
 split at hsem
 case h_2=>cases hsem
 rename_i xs hxs;have hxfree:x.free=true:=by cases x<;>first | rfl | simp[I7] at hxs
 have hxrep:=Bq hi hkd hy2 hx hxfree;have hsfree:s.free=true:=by cases s<;>first | rfl | simp[Gj] at hsem
 have hsrep:=Bq hi hkd hy1 hs hsfree;obtain⟨consts,hrun'⟩:=F5 (P:=P) (w:=w) (a:=a) ho hb;rw[hargs,htys] at hrun';have hev:(#[y1,y].map a.eval)=#[a.eval y1,a.eval y]:=by simp
 rw[hev] at hrun'
 have hfin:∀{v:Value} {w':World},(Builtin.append_ #[sT,xT] o.type #[a.eval y1,a.eval y]).run P w=.ok v w'->(execOp a.eval o).run P w=.ok (.value v) w':=by
  intro v w' h;rw[hrun'];simp only[builtin,Sem.run_bind,h,Result.andThen_ok,Sem.run_pure]
 have hput:∀p,rs=[some p]->A'=A.set d (some p):=by
  rintro p rfl
  rw[hA rfl];rfl
 have stay:∀{v:Value},rs=[some s]->σ'=σ->a.eval y1=v->(Builtin.append_ #[sT,xT] o.type #[v,a.eval y]).run P w=.ok v w->(∀sz es,s≠.slice true sz es)->Gives P cx o a w A' σ':=by
  intro v h1 h2 h3 h4 h5;subst h2;rw[hput _ h1];refine .inl ⟨v,w,hfin (by rw[h3];exact h4),G,?_⟩
  rw[hod];exact hi.M9 (Ext.refl _ _ _) hi.base rfl (some d) (λt e=>by cases e;exact hdv) hsfree (by rw[<-h3];exact hsrep) (λ_ _=>LV h5)
 have frame:∀(G':Gh) (w':World) (v:Value) (p:PV),p.free=true->BF G'.I G'.bl w' v p->(∀tag,EB G' w' tag v p)->∀(t:Nat) (q:PV),Frm.get (A.set d (some p)) t=some q->
   (¬False/\some d≠some t/\A.get t=some q)\/Ei cx G' (a.put (some d) v) w' t q:=by
  intro G' w' v p hf hr how t q hq;rw[Dp] at hq
  split at hq
  ·rename_i h;cases hq;refine .inr ?_
   rw[h.1,Ch hdv.2 hf,Gc _ _ _ (by rw[hi.size];exact hdv.1)]
   exact⟨hr,how _⟩
  ·rename_i h;exact .inl ⟨λh=>h,λe=>h ⟨(Option.some.inj e).symm,by have:=hi.room;have:=hdv.1;omega⟩,hq⟩
 cases s with
 |nils=>
  have ev:=hsrep.F6;simp only[Gj] at hsem
  split at hsem
  ·rename_i hemp;have hxe:xs=[]:=DF.1 hemp;subst hxe;cases hsem;obtain⟨news,hsrc,_⟩:=ND (P:=P) hi hs0 hxT hxrep hxs (by rfl)
   have hn0:news=[]:=Ak.1 (by rw[hsrc.newsLen];simp)
   subst hn0;refine stay rfl rfl ev ?_ (by simp)
   have hc0:=hsrc.cells;have hl0:=hsrc.len w;simp only[Ba] at hc0 hl0;obtain⟨e',hk⟩:=hxT;simp[Builtin.append_,run_underlying hsT,run_underlying hk,sizeOf,typeInfo,hit,hl0,hc0]
  ·rename_i hemp
   split at hsem
   case isFalse=>cases hsem
   rename_i hcond;obtain⟨hmax,hones,hokc⟩:=hcond;cases hsem;rw[hput _ rfl];obtain⟨news,hsrc,hrow⟩:=ND (P:=P) hi hs0 hxT hxrep hxs hones
   have hxlen:0<xs.length:=by
    cases xs with
    |nil=>simp at hemp
    |cons _ _=>simp
   have hr:=run_append_grow_src w sT xT o.type e it z hsT hit hz' none 0 0 [] (run_firstCells_none w.drew it.size 0 0 0) (a.eval y) xs.length news hsrc am (by unfold Bo at hmax;omega) (KJ am am hby)
   rw[<-ev] at hr;simp only[BB,Bn] at hr
   let cap:=grownCap w xs.length 0 e
   let rest:Array Value:=Builtin.zeroCells z.cells (cap - xs.length)
   have hcap:xs.length<=cap:=grownCap_ge ..
   have hsz:(news.toArray++rest).size=cap * it.size:=by
    simp only[rest,Fp,Cq,hrow.1,Builtin.zeroCells,Array.size_map,FL,hzs];rw[<-Cf];congr 1;omega
   exact R6 hi hdv hod (KQ (G:=G) (w:=w) (λ_=>False)) (GV hi.base) hs0 hcap hsz (by simp) (Mx hrow.Ag (OL _ news rest rfl)) (hfin hr)
 |empt=>
  obtain⟨ad,ev⟩:=hsrep.JS;simp only[Gj] at hsem
  split at hsem
  ·rename_i hemp;have hxe:xs=[]:=DF.1 hemp;subst hxe;cases hsem;obtain⟨news,hsrc,_⟩:=ND (P:=P) hi hs0 hxT hxrep hxs (by rfl)
   have hn0:news=[]:=Ak.1 (by rw[hsrc.newsLen];simp)
   subst hn0;have hc0:=hsrc.cells;have hl0:=hsrc.len w;simp only[Ba] at hc0 hl0;obtain⟨e',hk⟩:=hxT;rw[hput _ rfl];refine .inl ⟨.slice (some ad) 0 0,w,hfin (by rw[ev];simp[Builtin.append_,run_underlying hsT,run_underlying hk,sizeOf,typeInfo,hit,hl0,hc0,storeCells]),G,?_⟩
   rw[hod];exact hi.M9 (Ext.refl _ _ _) hi.base rfl (some d) (λt e=>by cases e;exact hdv) rfl (.one (.inl (.slice (λ_ _=>undef) rfl (Ai _) (λh=>absurd rfl h) nofun nofun nofun nofun))) (λ_ _=>LV nofun)
  ·rename_i hemp
   split at hsem
   case isFalse=>cases hsem
   rename_i hcond;obtain⟨hmax,hones,hokc⟩:=hcond;cases hsem;rw[hput _ rfl];obtain⟨news,hsrc,hrow⟩:=ND (P:=P) hi hs0 hxT hxrep hxs hones
   have hxlen:0<xs.length:=by
    cases xs with
    |nil=>simp at hemp
    |cons _ _=>simp
   have hr:=run_append_grow_src w sT xT o.type e it z hsT hit hz' (some ad) 0 0 [] (run_firstCells_some w.drew it.size 0 ad 0 0 [] (by simp) (λj u h=>by simp at h)) (a.eval y) xs.length news hsrc am (by unfold Bo at hmax;omega) (KJ am am hby)
   rw[<-ev] at hr;simp only[BB,Bn] at hr
   let cap:=grownCap w xs.length 0 e
   let rest:Array Value:=Builtin.zeroCells z.cells (cap - xs.length)
   have hcap:xs.length<=cap:=grownCap_ge ..
   have hsz:(news.toArray++rest).size=cap * it.size:=by
    simp only[rest,Fp,Cq,hrow.1,Builtin.zeroCells,Array.size_map,FL,hzs];rw[<-Cf];congr 1;omega
   exact R6 hi hdv hod (KQ (G:=G) (w:=w) (λ_=>False)) (GV hi.base) hs0 hcap hsz (by simp) (Mx hrow.Ag (OL _ news rest rfl)) (hfin hr)
 |arr id gen off len sz=>
  simp only[Gj] at hsem
  split at hsem
  case isFalse=>cases hsem
  rename_i hsz';subst hsz'
  split at hsem
  case h_2=>cases hsem
  rename_i es hes;obtain⟨fs,hσ,hl,rfl⟩:=SX hes;obtain⟨b0,base0,n0,cap,b',o',hbb,hcap,hcn,hat,ev⟩:=hsrep.JF;obtain⟨b,base,n,cs,elem,h1,h2,hω,hI,hheap,h6,h7,h8,h9⟩:=PW hi hσ;rw[hbb] at h1;cases h1;have hidlt:=(Ad.1 hσ).1;have hlen:((fs.drop off).take len).length=len:=by rw[AA,Aw];omega
  split at hsem
  ·rename_i hemp;have hxe:xs=[]:=DF.1 hemp;subst hxe;cases hsem;obtain⟨news,hsrc,_⟩:=ND (P:=P) hi hs0 hxT hxrep hxs (by rfl)
   have hn0:news=[]:=Ak.1 (by rw[hsrc.newsLen];simp)
   subst hn0;exact stay rfl rfl ev (run_append_room_src w sT xT o.type e it hsT hit b' o' len cap _ _ [] hsrc (by simpa using hcap) (by simp) (by simp)) (by simp)
  ·rename_i hemp
   split at hsem
   case isFalse=>cases hsem
   rename_i hcond;obtain⟨hmax,hones,hokc⟩:=hcond;cases hsem;rw[hput _ rfl];obtain⟨news,hsrc,hrow⟩:=ND (P:=P) hi hs0 hxT hxrep hxs hones
   have hxlen:0<xs.length:=by
    cases xs with
    |nil=>simp at hemp
    |cons _ _=>simp
   obtain⟨olds,holdrow,holdcell⟩:=OC (G:=G) (id:=id) (gen:=gen) (n:=n0) (off:=off) (len:=len) hs0 hheap am h9 hl
   have holdlen:olds.length=len * it.size:=by rw[holdrow.1,hlen]
   have hnewlen:news.length=xs.length * it.size:=hrow.1;have hnone:G.bl.ab id (gen+1)=none:=h2 _ am
   obtain⟨bo,hbo,_⟩:=hi.obj id _ hσ;by_cases hfit:len+xs.length<=cap
   ·
    obtain⟨rfl,rfl⟩:=hat am
    have hmul:(off+(len+xs.length)) * it.size<=(off+cap) * it.size:=BJ _ am
    have hmul2:(off+(len+xs.length)) * it.size=off * it.size+len * it.size+xs.length * it.size:=by rw[Cf,Cf];omega
    have hmul3:(off+cap) * it.size=off * it.size+cap * it.size:=Cf ..
    let k:=base0+off * it.size+len * it.size
    have hin:∀j,j<news.length->(w.cell? ⟨b',k+j,none⟩).isSome=true:=by
     intro j hj;simp only[World.cell?,hheap];have:k+j<cs.size:=by show base0+off * it.size+len * it.size+j<cs.size;omega
     simp[this]
    have hr:=run_append_room_src w sT xT o.type e it hsT hit b' (base0+off * it.size) len cap (a.eval y) xs.length news hsrc hfit hin (λj hj=>by simp[World.frozen?,hheap])
    rw[<-ev] at hr
    let w':=w.setCells b' k news
    let bl':Bl:=G.bl.gen id (gen+1) (b',base0+off * it.size,n0)
    let G':Gh:=⟨G.I,G.ω,bl'⟩
    have hne:∀b2 x,G.I b2 x->b2≠b':=λb2 x h e=>hI x (e▸h)
    have hsame:Same G.I w w':=⟨λb2 o2 h=>cell_of_heap (Ez b' _ _ _ _ (hne _ _ h)),λb2 h=>Ez b' _ _ _ _ (hne _ _ h)⟩
    have hext:Ext (λtg=>tg=.obj id none) G G' w w':=by
     refine⟨λ_ _ h=>h,hsame,Bl.TL hnone _,λid' hid' hX g=>Bl.Mt _ _ (λhh=>hX none (by rw[hh.1])),λb2 tg h hX=>?_⟩
     have hb2:b2≠b':=by
      intro e2;subst e2;rw[hω] at h;cases h;exact hX rfl
     exact⟨h,Ez b' _ _ _ _ hb2,λx hx=>hx⟩
    have hnK:=(hi.base.own b' _ hω).2
    have hbase:Base cx G' w':=by
     have hb0:=hi.base;refine⟨λb2 hK=>?_,hb0.same.trans hsame hb0.sub,hb0.sub,hb0.new,λb2 x h=>by rw[size_setCells];exact hb0.lt b2 x h,λb2 tg h=>by rw[size_setCells];exact hb0.own b2 tg h,hb0.Klt,by rw[size_setCells];exact hb0.grow,hb0.bl.trans (Bl.TL hnone _),?_,by rw[Ll];exact hb0.tape,?_⟩
     ·rw[Ez b' _ _ _ _ (λe2=>hnK (e2▸hK))];exact hb0.keep b2 hK
     ·rw[World.os_setCells];exact hb0.os
     ·rw[World.output_setCells];exact hb0.output
    obtain⟨cur',hcur1,hcur2⟩:=IJ b' elem (0,0) news k w cs hheap;have habn:G'.bl.ab id (gen+1)=some (b',base0+off * it.size,n0):=Bl.jQ ..;have hrow2:=((holdrow.append hrow.Ag)).mono hext.I hext.same hext.bl
    have hcellw:∀(j:Nat) (v:Value),(olds++news)[j]?=some v->cur'.getD (base0+off * it.size+j) undef=v:=by
     intro j v hj
     have key:w'.cell? ⟨b',base0+off * it.size+j,none⟩=some v:=by
      by_cases hjo:j<olds.length
      ·rw[AR hjo] at hj;have h0:=holdcell j v hj;rw[<-h0];exact World.cell?_setCells_out b' news _ w _ (λ_ _=>.inl (by dsimp only;show _<base0+off * it.size+len * it.size;omega))
      ·rw[Aq am,holdlen] at hj
       have hkn:j - len * it.size<news.length:=(Ad.1 hj).1;have h0:=World.cell?_setCells_in b' news k w hin _ hkn
       rw[show k+(j - len * it.size)=base0+off * it.size+j from by show base0+off * it.size+len * it.size+(j - len * it.size)=_;omega] at h0
       rw[h0,<-Af hkn];exact hj
     simp only[World.cell?] at key;rw[hcur2] at key;rw[Ao];simp at key;rw[key];rfl
    have hval:Jn G'.bl (.slice (some ⟨b',base0+off * it.size,none⟩) (len+xs.length) cap) (.arr id (gen+1) 0 (len+xs.length) it.size):=
     .arr habn hfit (by rw[BB];omega) (λ_=>⟨rfl,am⟩)
    refine .inl ⟨_,w',hfin hr,G',?_⟩
    rw[hod]
    refine hi.Pp (X:=λtg=>tg=.obj id none) (T:=λ_=>False) (some d) _ (λu e=>by cases e;exact hdv.2) hidlt
     ⟨bo,hbo,.inr (.inr (.inr (.inl ⟨gen+1,it.size,_,rfl,b',base0+off * it.size,n0,cur',elem,habn,λg hg=>?_,hω,hI,hcur2,am,hs0,?_,Mx hrow2 hcellw⟩)))⟩ hext hbase rfl (λk' g x hx=>?_) (λtg h=>.inl ⟨none,h⟩) (λ_ h=>h.elim) (by simp)
     (frame G' w' _ _ rfl (.one (.inr hval)) (λ_=>trivial))
    ·exact(Bl.Mt _ _ am).trans (h2 g am)
    ·rw[Ae,Ap,hlen,Cf];omega
    ·by_cases hh:k'=id/\g=gen+1
     ·rw[hh.1];exact hidlt
     ·exact hi.abl k' g x ((Bl.Mt _ _ hh).symm.trans hx)
   ·
    have hg:cap<len+xs.length:=am
    have hfc:(Builtin.firstCells it.size len (.slice (some ⟨b',o',none⟩) len cap)).run P w.drew=.ok olds.toArray w.drew:=by
     refine run_firstCells_some w.drew it.size len ⟨b',o',none⟩ len cap olds holdlen (λj v hj=>?_)
     have hjl:=(Ad.1 hj).1
     have hl0:0<len:=by
      rcases Eu len with h | h
      ·subst h;rw[Nat.zero_mul] at holdlen;omega
      ·exact h
     obtain⟨rfl,rfl⟩:=hat am
     rw[FM];exact holdcell j v hj
    have hr:=run_append_grow_src w sT xT o.type e it z hsT hit hz' (some ⟨b',o',none⟩) len cap olds hfc (a.eval y) xs.length news hsrc hg (by unfold Bo at hmax;omega) (KJ hg hmax hby)
    rw[<-ev] at hr
    let cap':=grownCap w (len+xs.length) cap e
    let rest:Array Value:=Builtin.zeroCells z.cells (cap' - (len+xs.length))
    let cells:Array Value:=(olds++news).toArray++rest
    have hcap':len+xs.length<=cap':=grownCap_ge ..
    have hsz:cells.size=cap' * it.size:=by
     simp only[cells,rest,Fp,Cq,Ae,holdlen,hnewlen,Builtin.zeroCells,Array.size_map,FL,hzs];rw[<-Cf,<-Cf];congr 1;omega
    let G1:=G.MM w.heap.size (λ_=>False) (some (.obj id none))
    let bl':Bl:=G.bl.gen id (gen+1) (w.heap.size,0,cells.size)
    let G':Gh:={ G1 with bl:=bl' }
    have hext1:=(KQ (G:=G) (w:=w) (λtg=>tg=.obj id none)).trans (Gb (λtg=>tg=.obj id none) (GV hi.base) (.cells cells e) (λ_=>False) (some (.obj id none)))
    have hext:Ext (λtg=>tg=.obj id none) G G' w (w.drew.alloc (.cells cells e)):=⟨hext1.I,hext1.same,Bl.TL hnone _,λid' hid' hX g=>Bl.Mt _ _ (λhh=>hX none (by rw[hh.1])),hext1.fix⟩
    have hb1:=FD (GV hi.base) (.cells cells e) (λ_=>False) (some (.obj id none))
    have hbase:Base cx G' (w.drew.alloc (.cells cells e)):=⟨hb1.keep,hb1.same,hb1.sub,hb1.new,hb1.lt,hb1.own,hb1.Klt,hb1.grow,hi.base.bl.trans (Bl.TL hnone _),hb1.os,hb1.tape,hb1.output⟩;have habn:G'.bl.ab id (gen+1)=some (w.heap.size,0,cells.size):=Bl.jQ ..;have hrow2:=((holdrow.append hrow.Ag)).mono hext.I hext.same hext.bl
    have hval:Jn G'.bl (.slice (some ⟨w.heap.size,0,none⟩) (len+xs.length) cap') (.arr id (gen+1) 0 (len+xs.length) it.size):=
     .arr habn hcap' (by rw[BB,BB,hsz];exact Ai _) (λ_=>⟨rfl,am⟩)
    refine .inl ⟨_,_,hfin hr,G',?_⟩
    rw[hod];show Inv cx G' (a.put (some d) (.slice (some ⟨w.heap.size,0,none⟩) (len+xs.length) cap')) (w.drew.alloc (.cells cells e)) _ _
    refine hi.Pp (X:=λtg=>tg=.obj id none) (T:=λ_=>False) (some d) _ (λu e=>by cases e;exact hdv.2) hidlt
     ⟨bo,hbo,.inr (.inr (.inr (.inl ⟨gen+1,it.size,_,rfl,w.heap.size,0,cells.size,cells,e,habn,λg hg=>?_,if_pos rfl,?_,heap_alloc_new' _ _,rfl,hs0,?_,Mx hrow2 (OL cells (olds++news) rest rfl)⟩)))⟩ hext hbase rfl (λk' g x hx=>?_) (λtg h=>.inl ⟨none,h⟩) (λ_ h=>h.elim) (by simp)
     (frame G' (w.drew.alloc (.cells cells e)) (.slice (some ⟨w.heap.size,0,none⟩) (len+xs.length) cap') _ rfl (.one (.inr hval)) (λ_=>trivial))
    ·exact(Bl.Mt _ _ am).trans (h2 g am)
    ·rintro x (h | ⟨_,h⟩)
     ·have:=hi.base.lt _ _ h;omega
     ·exact h
    ·rw[Ae,Ap,hlen,BB,hsz];exact BJ _ hcap'
    ·by_cases hh:k'=id/\g=gen+1
     ·rw[hh.1];exact hidlt
     ·exact hi.abl k' g x ((Bl.Mt _ _ hh).symm.trans hx)
 |_=>simp[Gj] at hsem
def Xp(hi:Inv cx G a w A σ){id gen off len size:Nat}{es:List PV}(E:JM σ id gen off len size=some es)(V:es.all (λe=>e.flat&&e.cells.all PV.flat)=true):
  ∃G',Inv cx G' a w A (σ.set id [.dead])/\G'.bl=G.bl/\(∀b x,G.I b x->G'.I b x)/\∀v,BF G.I G.bl w v (.arr id gen off len size)->Rep G'.I w v (.slice false size es):=by
 obtain⟨fs,m,Z,rfl⟩:=SX E;obtain⟨b,base,n,cs,O,Q,h2,B,hI,y,h6,h7,h8,X⟩:=PW hi m;obtain⟨W,I,_⟩:=hi.obj id _ m
 let J:Option Nat->Prop:=λx=>∃o,x=some o
 have g:=Uo (G:=G) (w:=w) (X:=λN=>N=.obj id none) B rfl J
 refine⟨G.shut b J,hi.Pp (T:=λ_=>False) none undef (λu e=>by cases e) (Ad.1 m).1 ⟨W,I,.inr (.inr (.inl rfl))⟩ g (NU hi.base B J) rfl hi.abl
  (λN h=>.inl ⟨none,h⟩) (λ_ h=>h.elim) rfl (λt q U=>.inl ⟨λh=>h,by simp,U⟩),rfl,λ_ _ h=>.inl h,λv S=>?_⟩
 obtain⟨b0,D,n0,cap,b',o',H,l,T,K,Y⟩:=S.JF;rw[H] at Q;cases Q;have d:((fs.drop off).take len).length=len:=by grind
 obtain⟨ds,f,r⟩:=OC (G:=G) (id:=id) (gen:=gen) (n:=n) (off:=off) (len:=len) h7 y am X Z
 have z:∀(i:Nat) (e:PV) (j:Nat) (p:PV),((fs.drop off).take len)[i]?=some e->e.cells[j]?=some p->p.flat=true:=by grind
 have s:Jm (G.shut b J).I w size ds ((fs.drop off).take len):=by
  refine⟨f.1,f.2.1,λi e j p M L=>?_⟩
  obtain⟨c,R,c2⟩:=f.2.2 i e j p M L;exact⟨c,R,(c2.flat (z i e j p M L)).mono g.I g.same⟩
 rw[Y];by_cases F:len=0
 ·have C:(fs.drop off).take len=[]:=by rw[F];simp
  rw[C] at d ⊢;exact .slice (λ_ _=>undef) d.symm l (λh=>absurd rfl h) (λi e h=>by simp at h) (λi e j p h=>by simp at h) (λi e j p h=>by simp at h) (λi e j p h=>by simp at h)
 ·obtain⟨rfl,rfl⟩:=K am
  exact OE d.symm l s (λk _=>.inr ⟨rfl,_,rfl⟩) (λk v hk=>r k v hk)
def Ue(hi:Inv cx G a w A σ){id gen off len size:Nat}{es:List PV}(c:JM σ id gen off len size=some es)(b:es.all (λe=>e.flat&&e.cells.all PV.flat)=true):
  ∃G',Inv cx G' a w A (σ.set id [.dead])/\∀v,BF G.I G.bl w v (.arr id gen off len size)->Rep G'.I w v (.slice false size es):=by
 let ⟨_,_,_,_,_⟩:=Xp hi c b
 grind
def QJ:∀(ps:List PV) {vs:List PV} {σ σ':Sto},Uf ps σ=some (vs,σ')->∀{G:Gh},Inv cx G a w A σ->
  ∃G',Inv cx G' a w A σ'/\G'.bl=G.bl/\(∀b x,G.I b x->G'.I b x)/\vs.length=ps.length/\∀(i:Nat) (p q:PV),ps[i]?=some p->vs[i]?=some q->∀c,JZ G.I G.bl w c p->Rep G'.I w c q
 |[],vs,σ,σ',h,G,hi=>by
  cases h;exact⟨G,hi,rfl,λ_ _ h=>h,rfl,by simp⟩
 |c::cs,vs,σ,σ',h,G,hi=>by
  have z:c.flat=true->(Uf cs σ).map (fun(vs,σ')=>(c.Ck::vs,σ'))=some (vs,σ')->∃G',Inv cx G' a w A σ'/\G'.bl=G.bl/\(∀b x,G.I b x->G'.I b x)/\vs.length=(c::cs).length/\∀(i:Nat) (p q:PV),(c::cs)[i]?=some p->vs[i]?=some q->∀u,JZ G.I G.bl w u p->Rep G'.I w u q:=by
   intro D h;obtain⟨⟨us,n⟩,l,e⟩:=Ac.1 h;cases e;obtain⟨G',m,r,j,t,y⟩:=QJ cs l hi;refine⟨G',m,r,j,by simp[t],λi p q g f u k=>?_⟩
   cases i with
   |zero=>
    simp at g f;subst g f;exact(((BF.one k).flat D).mono j (Same.refl _ _)).Ck
   |succ i=>grind
  unfold Uf at h
  split at h
  ·split at h
   case h_2=>cases h
   rename_i es s
   split at h
   case isFalse=>cases h
   rename_i o;obtain⟨⟨us,n⟩,l,e⟩:=Ac.1 h;cases e;obtain⟨F,C,v,B,E⟩:=Xp hi s o;obtain⟨G',m,r,j,t,y⟩:=QJ cs l C;refine⟨G',m,r.trans v,λb x h=>j _ _ (B _ _ h),by simp[t],λi p q g f u k=>?_⟩
   cases i with
   |zero=>
    simp at g f;subst g f;exact(E u (.one k)).mono j (Same.refl _ _)
   |succ i=>exact y i p q (by grind) (by simpa using f) u (k.mono B (Same.refl _ _) (by rw[v];exact Bl.le_refl _))
  grind
def Inv.reset(hi:Inv cx G a w A σ){d:Nat}{p:PV}(c:Ei cx G a w d p):Inv cx G a w (A.set d (some p)) σ:=by
 refine⟨hi.defers,hi.size,by rw[C9];exact hi.room,hi.base,λt v b=>?_,hi.obj,hi.len,hi.abl⟩
 rw[Dp] at b
 split at b
 ·grind
 ·exact hi.slot t v b
def zZ(hi:Inv cx G a w A σ)(f:∀t,cx.kd t=fi.kind t)(s:cx.nt=fi.nt){o:Oper}{x:Operand}(E:o.op=.move x)
  {z:List CW} (D:Ar fi [x]=some z) (H:BK fi o.dst=true) (k:Cb pur call { dst:=o.dst,k:=.w .frz,args:=z } A σ=some (A',σ')):Gives P cx o a w A' σ':=by
 let ⟨vs,F,I,e,g,i⟩:=KA k
 obtain⟨y,zs,rfl,u,C⟩:=AX D;cases C;obtain⟨p,J,rfl,v,B⟩:=Av I;cases B
 have n:∀q,F=[some q]->A'=JJ A o.dst q:=by
  rintro q rfl
  cases j:o.dst with
  |none=>
   rw[j] at i;exact(i (by simp)).1
  |some d=>
   rw[j] at g;rw[g rfl];rfl
 have b:(execOp a.eval o).run P w=.ok (.value (a.eval x)) w:=by simp[execOp,E]
 have c:=Eg f s H;cases p with
 |nils=>
  cases e;rw[n _ rfl];exact .inl ⟨_,w,b,G,hi.M9 (Ext.refl _ _ _) hi.base rfl _ c rfl (Bq hi f u v rfl) (λ_ _=>trivial)⟩
 |empt=>
  cases e;rw[n _ rfl];exact .inl ⟨_,w,b,G,hi.M9 (Ext.refl _ _ _) hi.base rfl o.dst c rfl (Bq hi f u v rfl) (λ_ _=>trivial)⟩
 |arr id gen off len size=>
  simp only[sem,Fj] at e
  split at e
  ·rename_i es r
   split at e
   ·rename_i m;cases e;rw[n _ rfl]
    let ⟨G',l,h⟩:=Ue hi r m
    exact .inl ⟨_,w,b,G',l.M9 (Ext.refl _ _ _) l.base rfl _ c rfl (.one (.inl (h _ (Bq hi f u v rfl)))) (λ_ _=>trivial)⟩
   ·cases e
  ·cases e
 |_=>simp[sem,Fj] at e
def zM(hi:Inv cx G a w A σ)(k:∀t,cx.kd t=fi.kind t)(E:cx.nt=fi.nt){o:Oper}{t e:TypeId}{l c:Operand}{d:Nat}(ho:o.op=.makeSlice t l c)(C:o.dst=some d)
  (ht:P.underlying t=some (.slice e)) {b:TypeInfo} (x:P.info? e=some b) {z:PV} (D:F4 P e=some z) (Q:0<b.size) (hby:b.bytes<=4096) (h:z.cells.length=b.size)
  {U:List CW} (hc:Ar fi [l,c]=some U) (hd:Dn fi d=true) (B:Cb pur call { dst:=some d,k:=.w (.mks b.size z),args:=U } A σ=some (A',σ')):Gives P cx o a w A' σ':=by
 obtain⟨vs,rs,he,r,hA,_⟩:=KA B;obtain⟨y,zs,rfl,hy,g⟩:=AX hc;obtain⟨y2,zs,rfl,N,g⟩:=AX g;cases g;obtain⟨p,qs,rfl,hp,f⟩:=Av he;obtain⟨p2,qs,rfl,R,f⟩:=Av f;cases f;have I:=FU k E hd;simp only[sem] at r;cases p with
 |int k1 n=>cases p2 with
  |int k2 m=>
   simp only[Fj] at r
   split at r
   case isFalse=>cases r
   rename_i O;obtain⟨rfl,W,T,_,_⟩:=O;cases r;rw[hA rfl];have e1:=(Bq hi k hy hp rfl).CJ;have X:=(Bq hi k N R rfl).CJ;unfold F4 at D;rw[x] at D;obtain⟨s,F,J⟩:=AB.1 D;obtain⟨V,r2⟩:=GU (Gv J);have hmx:(Bo:Int)=4294967296:=rfl
   have M:(b.bytes:Int) * n<=281474976710656:=by
    have h1:(b.bytes:Int) * n<=4096 * n:=Int.mul_le_mul_of_nonneg_right am W
    omega
   have L:=run_make (P:=P) w t e b s ht x F k1 k2 n n W (Int.le_refl _) M am
   have Y:(execOp a.eval o).run P w=.ok (.value (.slice (some ⟨w.heap.size,0,none⟩) n.toNat n.toNat)) (w.alloc (.cells (madeCells s.cells (n.toNat * b.size)) e)):=by
    simp only[execOp,ho,e1,X,Sem.run_bind,L,Result.andThen_ok];rfl
   refine R6 hi I C (Ext.refl _ _ _) hi.base Q (Ai _) (size_madeCells _ _) (by simp) (λi q f=>?_) Y
   rw[List.getElem?_replicate] at f
   split at f
   case isFalse=>cases f
   rename_i Z;cases f;refine⟨h,λj u hu=>.one (.inl ?_)⟩
   have S:j<b.size:=by grind
   have H:0+i * b.size+j<n.toNat * b.size:=by
    have:(i+1) * b.size<=n.toNat * b.size:=BJ _ am
    rw[BU] at this;omega
   have:=r2 j u hu
   have hg:(madeCells s.cells (n.toNat * b.size)).getD (0+i * b.size+j) undef=s.cells.getD j undef:=by
    have v:(0+i * b.size+j) % s.cells.size=j:=by
     rw[V,h,BB,Cm,Nat.add_mul_mod_self_right,Nat.mod_eq_of_lt S]
    have K:j<s.cells.size:=by rw[V,h];exact S
    rw[Ao,Ao];simp only[madeCells,Array.getElem?_map,Array.getElem?_range,H,if_true,AJ,v]
    simp[K]
   rw[hg];exact this
  |_=>simp[Fj] at r
 |_=>simp[Fj] at r
def Qq(w:World)(t tx p e:TypeId)(i:TypeInfo)(z:Value)(o:P.underlying t=some (.slice e)){v:IntKind}(x:P.underlying tx=some (.int v))(hi:P.info? e=some i)(y:i.zero=some z)(k:IntKind)(n:Nat)(g:0<n)(b:n<=Bo)(c:i.bytes<=4096)(d:0<i.size):
  (Builtin.append_ #[t,tx] p #[.slice none 0 0,.int k n]).run P w =
   .ok (.slice (some ⟨w.heap.size,0,none⟩) n (grownCap w n 0 e)) (w.drew.alloc (.cells (Builtin.zeroCells z.cells n++Builtin.zeroCells z.cells (grownCap w n 0 e - n)) e)):=by
 unfold Bo at b;have s:IntKind.i64.wrap (n:Int)=n:=by rw[IntKind.wrap_i64];omega
 have h:¬((n:Int) < 0):=am
 have q:n * i.bytes<=4294967296 * 4096:=Nat.mul_le_mul b c
 have l:¬(281474976710656<(n:Int) * i.bytes):=by
  rw[<-Int.natCast_mul];omega
 have r:¬(9223372036854775807<(n:Int)):=am
 have j:¬(281474976710656<Builtin.nextslicecap n 0 * i.bytes):=by
  have:=KJ (old:=0) g (by unfold Bo;exact b) c
  omega
 have u:n≠0:=am
 have m:i.size≠0:=am
 have C:¬(n<=0):=am
 have B:¬(n=0\/i.size=0):=am
 simp[Builtin.append_,run_underlying o,run_underlying x,sizeOf,typeInfo,zeroValue,hi,y,asInt,asIntOf,s,h,l,r,j,u,m,Question.forced,run_firstCells_none,newRow,grownCap];intro f;have:=Nat.mul_pos g d;omega
def uG(hi:Inv cx G a w A σ)(C:∀t,cx.kd t=fi.kind t)(hnt:cx.nt=fi.nt){o:Oper}{c:Call}(ho:o.op=.call c)(hb:c.callee=.builtin .append)
  {R xT e:TypeId} {d:Nat} {Q y:Operand} (D:c.args=#[Q,y]) (I:c.argTypes=#[R,xT]) (S:o.dst=some d)
  (U:P.underlying R=some (.slice e)) {k':IntKind} (hxT:P.underlying xT=some (.int k')) {b:TypeInfo} (L:P.info? e=some b) {z:PV} (hz:F4 P e=some z)
  (N:0<b.size) (hby:b.bytes<=4096) (F:z.cells.length=b.size)
  {az:List CW} (hc:Ar fi [Q,y]=some az) (hd:Dn fi d=true)
  (J:Cb pur call { dst:=some d,k:=.w (.appZ b.size z),args:=az } A σ=some (A',σ')):Gives P cx o a w A' σ':=by
 obtain⟨vs,rs,he,r,hA,_⟩:=KA J;obtain⟨z1,zs,rfl,hy1,B⟩:=AX hc;obtain⟨z2,zs,rfl,hy2,B⟩:=AX B;cases B;obtain⟨s,qs,rfl,hp,m⟩:=Av he;obtain⟨x,qs,rfl,hp2,m⟩:=Av m;cases m;have X:=FU C hnt hd;simp only[sem] at r;cases s with
 |nils=>cases x with
  |int k n=>
   simp only[Fj] at r
   split at r
   case isFalse=>cases r
   rename_i hcc;obtain⟨h0,hmax,_⟩:=hcc;cases r;rw[hA rfl];have e1:=(Bq hi C hy1 hp rfl).F6;have e2:=(Bq hi C hy2 hp2 rfl).CJ;unfold F4 at hz;rw[L] at hz;obtain⟨l,Y,W⟩:=AB.1 hz;have hzr:Rep G.I w l z:=Gv W;obtain⟨r1,r2⟩:=GU hzr;obtain⟨O,f⟩:=F5 (P:=P) (w:=w) (a:=a) ho hb;rw[D,I] at f;have T:(#[Q,y].map a.eval)=#[a.eval Q,a.eval y]:=by simp
   rw[T,e1,e2] at f;have hnn:((n.toNat:Nat):Int)=n:=am
   have M:=Qq (P:=P) w R xT o.type e b l U hxT L Y k n.toNat am am hby N
   rw[hnn] at M
   have H:∀{v:Value} {w':World},(Builtin.append_ #[R,xT] o.type #[.slice none 0 0,.int k n]).run P w=.ok v w'->(execOp a.eval o).run P w=.ok (.value v) w':=by
    intro v w' h;rw[f];simp only[builtin,Sem.run_bind,h,Result.andThen_ok,Sem.run_pure]
   have hr:=H M;have E:n.toNat<=grownCap w n.toNat 0 e:=grownCap_ge ..;have g:l.cells.size=b.size:=by rw[r1,F]
   refine R6 hi X S (KQ (G:=G) (w:=w) (λ_=>False)) (GV hi.base) N E ?_ (by simp) (λi q m=>?_) hr
   ·simp only[Fp,Builtin.zeroCells,Array.size_map,FL,g];rw[<-Cf];congr 1;omega
   ·rw[List.getElem?_replicate] at m
    split at m
    case isFalse=>cases m
    rename_i hin;cases m;refine⟨F,λj u hu=>.one (.inl ?_)⟩
    have hj:j<b.size:=by grind
    have Z:0+i * b.size+j<n.toNat * b.size:=by
     have:(i+1) * b.size<=n.toNat * b.size:=BJ _ am
     rw[BU] at this;omega
    have:=r2 j u hu
    have hg:(Builtin.zeroCells l.cells n.toNat++Builtin.zeroCells l.cells (grownCap w n.toNat 0 e - n.toNat)).getD (0+i * b.size+j) undef=l.cells.getD j undef:=by
     have K:(0+i * b.size+j) % l.cells.size=j:=by
      rw[g,BB,Cm,Nat.add_mul_mod_self_right,Nat.mod_eq_of_lt hj]
     have V:j<l.cells.size:=by rw[g];exact hj
     have p:0+i * b.size+j<n.toNat * l.cells.size:=by rw[g];exact Z
     rw[Ao,Ao,Ej (by simpa [Builtin.zeroCells] using p)]
     simp only[Builtin.zeroCells,Array.getElem?_map,Array.getElem?_range,p,if_true,AJ,K]
     simp[V]
    rw[hg];exact this
  |_=>simp[Fj] at r
 |_=>simp[Fj] at r
def AqB(hi:Inv cx G a w A σ)(f:∀t,cx.kd t=fi.kind t)(g:cx.nt=fi.nt){o:Oper}{t e:TypeId}(k:o.op=.buildSlice t 0 #[])
  (l:P.underlying t=some (.slice e)) {size:Nat} {ag:Bool} (d:Cy P e=some (size,ag))
  (h:BK fi o.dst=true) (c:Cb pur call { dst:=o.dst,k:=.p .bse,args:=[] } A σ=some (A',σ')):Gives P cx o a w A' σ':=by
 refine ax hi (Eg f g h) c λvs m i j=>?_
 cases i;cases j;refine⟨_,.slice (some ⟨w.heap.size,0,none⟩) 0 0,_,_,rfl,rfl,?_,(Gb _ hi.base (.cells #[] e) (λ_=>False) none),FD hi.base _ _ _,rfl,.one (.inl .empt),λ_ _=>trivial⟩
 simp  [execOp,k,Instr.buildSlice,Sem.run_bind,underlying,run_program,l,Result.andThen_ok,Sem.run_pure,run_sizeOf d,newRow,run_newObj]
 simp[Instr.fill,run_newObj]
 grind
def O7(b:BinOp)(t:TypeId)(x y:Operand)(d:Option Addr)(l c:Nat):(eqGuard b t x y (.slice d l c) (.slice none 0 0)).run P w=.ok () w:=by
 cases b<;>rfl
def Rx{t e:TypeId}(f:P.underlying t=some (.slice e))(b:Option Addr)(l c:Nat):(Op.equal t (.slice b l c) (.slice none 0 0)).run P w=.ok b.isNone w:=by
 show(Op.equalIn (9999+1) t _ _).run P w=_;generalize 9999=d;cases b<;>simp[Op.equalIn,underlying,f]
def bM(hi:Inv cx G a w A σ)(d:∀t,cx.kd t=fi.kind t)(v:cx.nt=fi.nt){o:Oper}{ne:Bool}{r:BinOp}(h:r=if ne then .neq else .eql){t K e:TypeId}{x y:Operand}(O:o.op=.binOp r t x y K)(J:P.underlying t=some (.slice e))
  {B:List CW} (D:Ar fi [x,y]=some B) (N:BK fi o.dst=true) (q:Cb pur call { dst:=o.dst,k:=.p (.snil ne),args:=B } A σ=some (A',σ')):Gives P cx o a w A' σ':=by
 refine Hz hi d v N q λvs S Q p=>?_
 obtain⟨T,zs,rfl,j,u⟩:=AX D;obtain⟨R,zs,rfl,z,u⟩:=AX u;cases u;obtain⟨E,C,rfl,i,m⟩:=Av Q;obtain⟨F,C,rfl,s,m⟩:=Av m;cases m;cases F with
 |nils=>
  have M:=(Bq hi d z s rfl).F6
  have g:∀(f:Option Addr) (l c:Nat) (b:Bool),a.eval x=.slice f l c->f.isNone=b->(execOp a.eval o).run P w=.ok (.value (.bool (b != ne))) w:=by
   rintro f l c b k rfl
   have m:=Rx (P:=P) (w:=w) J f l c
   have I:(Go.binOp r t (.slice f l c) (.slice none 0 0)).run P w=.ok (.bool (f.isNone != ne)) w:=by
    cases ne with
    |true=>
     rw[if_pos rfl] at h;subst h;rw[binOp_neq m rfl];cases f<;>rfl
    |false=>
     rw[if_neg (by simp)] at h
     subst h;rw[binOp_eql m rfl];cases f<;>rfl
   simp[execOp,O,k,M,(O7 (P:=P) (w:=w) r t x y f l c),I]
  cases E with
  |nils=>
   cases p;exact⟨_,_,rfl,rfl,(g _ _ _ true ((Bq hi d j i rfl).F6) rfl),by cases ne<;>exact .one (.inl (.bool _)),λ_=>trivial⟩
  |slice H L es=>
   cases p;obtain⟨f,len,cap,cv,k,_⟩:=(Bq hi d j i rfl).FY;exact⟨_,_,rfl,rfl,(g _ _ _ false k rfl),by cases ne<;>exact .one (.inl (.bool _)),λ_=>trivial⟩
  |arr id gen off len L=>
   cases p;obtain⟨b,base,n,cap,V,U,_,_,_,_,k⟩:=(Bq hi d j i rfl).JF;exact⟨_,_,rfl,rfl,(g _ _ _ false k rfl),by cases ne<;>exact .one (.inl (.bool _)),λ_=>trivial⟩
  |empt=>
   cases p;obtain⟨f,k⟩:=(Bq hi d j i rfl).JS;exact⟨_,_,rfl,rfl,(g _ _ _ false k rfl),by cases ne<;>exact .one (.inl (.bool _)),λ_=>trivial⟩
  |_=>simp[AQ] at p
 |_=>simp[AQ] at p
def zU(hi:Inv cx G a w A σ)(x:∀t,cx.kd t=fi.kind t)(C:cx.nt=fi.nt){o:Oper}{t:TypeId}{s d:Nat}(ho:o.op=.load t (.tmp s))(I:o.dst=some d)(z:cx.kd s=.box){n k:Nat}(hn:Cy P t=some (n,true))
  (W:Dn fi d=true) (F:Cb pur call { dst:=some d,k:=.w (.ldz n k),args:=[.slot s],ex:=[s] } A σ=some (A',σ')):Gives P cx o a w A' σ':=by
 obtain⟨vs,rs,he,g,hA,_⟩:=KA F;obtain⟨c,qs,rfl,i,hq⟩:=Av he;cases hq;have H:=FU x C W;have U:d≠s:=by rintro rfl;rw[z] at H;simp[SK.val] at H
 obtain⟨S,_⟩:=DW i;simp only[sem] at g
 have L:s<A.length:=by
  unfold Frm.get at S
  grind
 have B:∀{G':Gh} {r:Sto} {f:List PV} {v:PV},Inv cx G' a w (A.set s (some (.agg f))) r->sub (.agg f) 0 n true=some v->rs=[some v.Ag,some (.agg f)]->σ'=r->Gives P cx o a w A' σ':=by
  intro G' r f v h y e1 e2;subst e1 e2;have Q:=hA rfl;have N:Sz (.agg f) 0 n true=some v:=by unfold Sz;rw[y]
  have T:Frm.get (A.set s (some (PV.agg f))) s=some (.agg f):=by rw[Dp,if_pos ⟨rfl,L⟩]
  refine X9 (pur:=pur) (call:=call) h x C ho z hn (by rw[I];exact W) ?_
  rw[I];simp only[Cb,Cc,T,sem,AQ,N,AJ,AOp.wr,Option.toList,Ah,Ba,Az,if_true,CK,Dw];rw[Q];simp only[AOp.wr,Option.toList,Az,CK,Dw,Bg,Bn];rw[List.set_comm _ _ (λe=>U e)]
 have m:=hi.slot s c S;cases c with
 |agg cs=>
  simp only[Fj] at g
  split at g
  ·rename_i id gen off len size hx
   split at g
   case h_2=>cases g
   rename_i es M
   split at g
   case isFalse=>cases g
   rename_i R;obtain⟨v,y,e⟩:=Ac.1 g;cases e;obtain⟨G',h,E⟩:=Ue hi M R;refine B (h.reset ?_) y rfl rfl
   obtain⟨b,V,q⟩:=(DV z).1 m;obtain⟨b',D,l⟩:=(DV z).1 (h.slot s _ S);rw[V] at D;cases D;refine(DV z).2 ⟨b,V,?_⟩
   obtain⟨c1,c2,u,J,X,c4,Z⟩:=l;obtain⟨_,_,K,O,Y,d4,d5⟩:=q;rw[X] at Y;cases Y;refine⟨c1,c2,u,J,X,by rw[c4];simp[PV.cells],λj p i=>?_⟩
   simp only[PV.cells] at i;rw[EG] at i
   split at i
   ·rename_i e;subst e
    split at i
    ·cases i;exact .inl ⟨.one (.inl (E _ ((d5 _ _ hx).rep (by simp)).1)),trivial⟩
    ·cases i
   ·exact Z j p i
  ·obtain⟨v,y,e⟩:=Ac.1 g;cases e;exact B (hi.reset m) y rfl rfl
 |_=>simp[Fj] at g
def z8(hi:Inv cx G a w A σ)(r:∀t,cx.kd t=fi.kind t)(u:cx.nt=fi.nt){o:Oper}{t:TypeId}{x:Operand}{f:Nat}(K:o.op=.field t x f)
  {fs:Array Field} {g:Field} (k:P.underlying t=some (.struct fs)) (L:fs[f]?=some g) {n:Nat} {ag:Bool} (D:Cy P g.type=some (n,ag))
  {F:List CW} (R:Ar fi [x]=some F) (O:BK fi o.dst=true) (l:Cb pur call { dst:=o.dst,k:=.p (.fld g.offset n ag),args:=F } A σ=some (A',σ')):Gives P cx o a w A' σ':=by
 refine Hz hi r u O l λvs V Q B=>?_
 obtain⟨y,zs,rfl,U,M⟩:=AX R;cases M;obtain⟨p,E,rfl,s,S⟩:=Av Q;cases S;cases p with
 |agg ps=>
  obtain⟨cs,J,T,H⟩:=(Bq hi r U s rfl).Sc;simp only[AQ] at B;obtain⟨v,b,e⟩:=Ac.1 B;cases e;have m:=NB b;have c:=gB b;cases ag with
  |true=>
   cases v with
   |agg E=>
    simp[fits] at c;refine⟨_,.agg (cs.extract g.offset (g.offset+n)),rfl,rfl,?_,?_,λ_=>Ct (.agg E)⟩
    ·simp[execOp,K,Instr.field,underlying,k,L,J,asAgg,part,Jr D,run_sizeOf D]
    ·have N:g.offset+n<=ps.length:=by
      unfold sub at b;dsimp only at b
      split at b
      ·rename_i h;exact h.1
      ·cases b
     refine(BF.one (.inl (.agg (by simp[c];omega) λi p s=>?_))).Ag
     have q:=(Ad.1 s).1;have:=H _ _ (m i p s)
     have e:(cs.extract g.offset (g.offset+n)).getD i undef=cs.getD (g.offset+i) undef:=by
      rw[Ao,Array.getElem?_extract,if_pos am,Ao]
     rw[e];exact this
   |_=>simp[fits] at c
  |false=>
   have C:v.cells=[v]:=by cases v<;>first | rfl | simp[fits] at c
   have I:=m 0 v (by rw[C];rfl)
   have q:=(Ad.1 I).1;have d:=H _ _ I;simp only[PV.cells,FH] at q d;refine⟨_,cs.getD g.offset undef,rfl,by rw[Di];exact Tc d,?_,(BF.one (.inl d)).Ag,λ_=>Ct v⟩
   have z:g.offset<cs.size:=am
   simp[execOp,K,Instr.field,underlying,k,L,J,asAgg,part,Jr D,z,Array.getD]
 |_=>simp[AQ] at B
def aB(w:World)(b k:Nat):Iw b w (w.freeze ⟨b,k,none⟩ 1):=by
 unfold World.freeze;exact⟨λj c=>by grind,by simp,rfl,rfl,rfl⟩
def aA{b k:Nat}{cs:Array Value}{c:TypeId}{fz:Nat×Nat}(h:w.heap[b]?=some (.cells cs c fz)):∃d,(w.freeze ⟨b,k,none⟩ 1).heap[b]?=some (.cells cs c d):=by
 unfold World.freeze
 grind
def Aq5(hi:Inv cx G a w A σ)(N:∀t,cx.kd t=fi.kind t)(F:cx.nt=fi.nt){o:Oper}{s t e e':TypeId}{u d:Nat}(ho:o.op=.convert s t (.tmp u))(W:s=t)(O:o.dst=some d)
  (hs:P.underlying s=some (.slice e')) (ht:P.underlying t=some (.slice e)) (he:P.underlying e=some (.int .u8))
  {az:List CW} (hc:Ar fi [.tmp u]=some az) (hd:Dn fi d=true) (hu:Dn fi u=true) (T:d≠u)
  (I:Cb pur call { dst:=some d,k:=.p .cvi,args:=az,ex:=[u] } A σ=some (A',σ')):Gives P cx o a w A' σ':=by
 subst W;obtain⟨vs,rs,Z,g,rfl,hA⟩:=AKB I;obtain⟨y,zs,rfl,C,hz⟩:=AX hc;cases hz;obtain⟨p,qs,rfl,hp,hq⟩:=Av Z;cases hq
 have hyy:y=.slot u:=by
  simp only[Hg] at C
  split at C<;>first | (split at C<;>first | (cases C;rfl) | cases C) | cases C
 subst hyy;cases p with
 |slice Q sz es=>
  cases Q with
  |false=>simp[AQ] at g
  |true=>
   simp only[AQ] at g
   split at g
   case isFalse=>cases g
   rename_i X;subst X;cases g;rw[hA _ _ rfl];have M:=FU N F hu;have V:=FU N F hd;obtain⟨H,S⟩:=MU hi M.2 hp rfl;obtain⟨b,off,cap,cs,D,ev,r,U,hIt,i,hcs,h0,hle⟩:=S
   let B:=w.freeze ⟨b,cs.size,none⟩ 1
   let G':=G.shut b λ_=>False
   have f:=aB w b cs.size
   have q:∀j,B.cell? ⟨b,j,none⟩=w.cell? ⟨b,j,none⟩:=by
    intro j;obtain⟨fz',hf⟩:=aA (k:=cs.size) i;show World.cell? (w.freeze _ _) _=_;simp only[World.cell?,hf,i]
   have l:Same G.I w B:=by
    refine⟨λn j h=>?_,λn h=>f.other _ (λe=>U (e▸h))⟩
    by_cases hb:n=b
    ·subst hb;exact q j
    ·exact cell_of_heap (f.other _ hb)
   have k:Ext (λL=>L=.slot u none\/L=.slot d none) G G' w B:=by
    refine⟨λ_ _ h=>.inl h,l,Bl.le_refl _,λ_ _ _ _=>rfl,λn L h hX=>?_⟩
    have K:n≠b:=by
     intro e;subst e;rw[r] at h;cases h;exact hX (.inl rfl)
    refine⟨by simp[G',Gh.shut,K,h],f.other _ K,λx E=>?_⟩
    rcases E with E | ⟨_,E⟩
    ·exact E
    ·exact E.elim
   have Y:=(hi.base.own b _ r).2
   have z:Base cx G' B:=by
    have c:=NU hi.base r (λ_=>False)
    refine⟨λn hK=>?_,hi.base.same.trans l hi.base.sub,c.sub,c.new,λn x h=>?_,λn L h=>?_,c.Klt,?_,c.bl,?_,?_,?_⟩
    ·rw[f.other _ (λe=>Y (e▸hK))];exact c.keep n hK
    ·rw[f.size];exact c.lt n x h
    ·rw[f.size];exact c.own n L h
    ·rw[f.size];exact c.grow
    ·rw[f.os];exact c.os
    ·rw[f.tape];exact c.tape
    ·rw[f.output];exact c.output
   have R:a.eval (.tmp u)=at' a u:=rfl
   have v:(execOp a.eval o).run P w=.ok (.value (at' a u)) B:=by
    have J:w.shape? b=some (D,cs.size):=by simp[World.shape?,i]
    simp only[execOp,ho,R,ev,convert,underlying];simp[hs,he,markStringish,J];rw[hs] at ht;cases ht;simp[he,markStringish,J];rfl
   refine .inl ⟨at' a u,B,v,G',?_⟩
   rw[O];have m:=(H.mono k.I k.same k.bl).Ag;exact hi.vg V M k z rfl rfl rfl m (λ_=>trivial) (by rw[GI _ _ _ _ (λe=>T (Option.some.inj e))];exact m) (λ_ _=>trivial)
 |_=>simp[AQ] at g
end
def FX(I:Imm)(bl:Bl)(w:World)(vs:List Value)(ps:List PV):Prop:=
 vs.length=ps.length/\∀(i:Nat) (p:PV),ps[i]?=some p->∃v,vs[i]?=some v/\BF I bl w v p
def FX.append{I:Imm}{bl:Bl}{w:World}{vs c:List Value}{ps b:List PV}(h:FX I bl w vs ps)(k:FX I bl w c b):FX I bl w (vs++c) (ps++b):=by
 refine⟨by simp[h.1,k.1],λi p a=>?_⟩
 by_cases hi:i<ps.length
 ·rw[AR hi] at a
  let ⟨v,_,_⟩:=h.2 i p a
  grind
 ·rw[Aq am] at a
  have⟨v,d,e⟩:=k.2 _ p a;exact⟨v,by rw[Aq (by rw[h.1];omega),h.1];exact d,e⟩
def FX.Ag{I:Imm}{bl:Bl}{w:World}{vs:List Value}{ps:List PV}(h:FX I bl w vs ps):FX I bl w vs (ps.map PV.Ag):=by
 refine⟨by simp[h.1],λi p a=>?_⟩
 rw[Al] at a;obtain⟨q,d,rfl⟩:=Ac.1 a
 let ⟨v,b,c⟩:=h.2 i q d
 exact⟨v,b,c.Ag⟩
structure Pre(K:Nat->Prop)(G:Gh)(w:World)(σ:Sto):Prop where
 lt:∀b x,G.I b x->b<w.heap.size
 Klt:KOk K w
 own:∀b tag,G.ω b=some tag->b<w.heap.size/\¬K b
 obj:∀(id:Nat) (cs:List PV),σ[id]?=some cs->Jp G w id cs
 len:G.bl.l.length=σ.length
 abl:∀id g a,G.bl.ab id g=some a->id<σ.length
structure Aft(K:Nat->Prop)(G:Gh)(w:World)(σ':Sto)(G':Gh)(w':World):Prop where
 keep:∀b,K b->w'.heap[b]?=w.heap[b]?
 same:Same G.I w w'
 sub:∀b x,G.I b x->G'.I b x
 new:∀b x,G'.I b x->G.I b x\/¬K b
 lt:∀b x,G'.I b x->b<w'.heap.size
 own:∀b tag,G'.ω b=some tag->b<w'.heap.size/\¬K b
 grow:w.heap.size<=w'.heap.size
 bl:G.bl.le G'.bl
 os:w'.os=w.os
 tape:w'.tape=w.tape
 output:w'.output=w.output
 obj:∀(id:Nat) (cs:List PV),σ'[id]?=some cs->Jp G' w' id cs
 len:G'.bl.l.length=σ'.length
 abl:∀id g a,G'.bl.ab id g=some a->id<σ'.length
def Ff(P:Program)(f:FuncId):Prop:=∃a,P.funcs[f]?=some a/\(a.name == "runtime.NumGoroutine")=false/\a.body.isNone=false
def LD(P:Program)(f:FuncId)(args:List PV)(c:Sto)(r:PV)(a:Sto):Prop:=
 Ff P f/\∀(n:Nat) (vs:Array Value) (w:World) (G:Gh) (K:Nat->Prop),FX G.I G.bl w vs.toList args->Pre K G w c->
  CallsIn (FW none) n P f vs w λe b=>∃v G',e=.returned v/\BF G'.I G'.bl b v r/\Aft K G w a G' b
def Iu(P:Program)(call:Caller):Prop:=
 ∀f args b r a,(∀p∈args,p.Ag=p)->call f args b=some (r,a)->LD P f args b r a
def Oo(p:PV):p.Ag.Ag=p.Ag:=by
 cases p with
 |agg cs=>
  simp only[PV.Ag,List.map_map,PV.agg.injEq];apply FN;intro x _;cases x<;>rfl
 |aggr cs=>
  simp only[PV.Ag,List.map_map,PV.aggr.injEq];apply FN;intro x _;cases x<;>rfl
 |_=>rfl
section
variable{P:Program}{pur:FuncId->Bool}{call:Caller}{fi:FI}{cx:Cx}{G:Gh}{a:Act}{w:World}{A A':Frm}{σ σ':Sto}
def kr{ro b:Option Nat}{n m:Nat}{f:FuncId}{vs:Array Value}{R:Ending->World->Prop}(h:CallsIn (FW ro) n P f vs w R):CallsIn (FW b) m P f vs w R:=
 ⟨trivial,λcs _=>h.2 _ (λ_ c=>by cases c)⟩
def Si{ro:Option Nat}{n:Nat}{o:Oper}{c:Call}{K:Act->World->Prop}{Q:Exit->Act->World->Prop}(p:o.op=.call c){x:Operand}(g:c.callee=.value x){f:FuncId}{fs cs:Array Value}(l:a.eval x=.func (.func f) fs cs)
  (d:Ff P f) (h:CallsIn (FW none) 0 P f (fs++c.args.map a.eval++cs) w λe j=>∃v,e=.returned v/\K (a.put o.dst v) j):o.wpIn (FW ro) n P a w K Q:=by
 let ⟨q,k,b,_⟩:=d
 refine⟨λ_ _=>trivial,?_⟩
 rw[Oper.semAt_eq _ _ _ (by grind)]
 have i:(execOp a.eval o).run P w=.ok (.enter f (fs++c.args.map a.eval++cs)) w:=by
  have m:¬q.body=none:=λe=>by grind
  simp[execOp,p,resolve,g,l,Deferred.ofValue,invoke,callFunc,k,(by simpa using b),m]
 rw[i];refine⟨λh=>by simp[FW] at h,(kr h).mono λe j=>?_⟩
 grind
def Jp.congr{G':Gh}{id:Nat}{cs:List PV}(m:G'.I=G.I)(c:∀b i j,G.ω b=some (.obj i j)->G'.ω b=some (.obj i j))(o:G'.bl=G.bl)(h:Jp G w id cs):Jp G' w id cs:=by
 obtain⟨b,J,Z⟩:=h;refine⟨b,by rw[o];exact J,?_⟩
 rcases Z with⟨x,r,u,f,B,H,y⟩ | ⟨t,e,l,rfl,x,r,p,v,E,B,H,y⟩ | h | ⟨gen,size,es,rfl,Q,base,n,cs,f,S,Y,U,W,T,X,V,M,g9⟩ | ⟨d,z,ks,vs,rfl,m1,m2,m3,es,m4,m5,m6⟩
 rotate_left
 ·refine .inr (.inl ⟨t,e,l,rfl,c _ _ _ x,by rw[m];exact r,p,v,E,B,H,λg K=>?_⟩)
  obtain⟨C,s,F⟩:=y g K;exact⟨C,c _ _ _ s,by rw[m];exact F⟩
 ·grind
 ·exact .inr (.inr (.inr (.inl ⟨gen,size,es,rfl,Q,base,n,cs,f,by rw[o];exact S,by rw[o];exact Y,c _ _ _ U,by rw[m];exact W,T,X,V,M,by grind⟩)))
 ·exact .inr (.inr (.inr (.inr ⟨d,z,ks,vs,rfl,c _ _ _ m1,by rw[m];exact m2,m3,es,m4,m5,by grind⟩)))
 refine .inl ⟨c _ _ _ x,by rw[m];exact r,u,f,B,H,λj p E=>?_⟩
 rcases y j p E with⟨hr,I⟩ | k
 rotate_left
 ·exact .inr k
 refine .inl ⟨by grind,?_⟩
 unfold EB at I ⊢;split
 ·obtain⟨O,off,cap,D,q,C,s,F,R,N,e6,L,e8⟩:=I;exact⟨O,off,cap,D,q,C,c _ _ _ s,by rw[m];exact F,by rw[m];exact R,N,e6,L,e8⟩
 ·trivial
def Gh.Z4(G:Gh):Gh:=⟨G.I,λb=>match G.ω b with | some (.obj i j)=>some (.obj i j) | _=>none,G.bl⟩
def Gh.Xc(G:Gh)(w:World)(b:Nat):Prop:=b<w.heap.size/\∀i j,G.ω b≠some (.obj i j)
def Gh.back(G:Gh)(w:World)(c:Gh):Gh:=⟨c.I,λb=>match c.ω b with | some (.obj i j)=>some (.obj i j) | _=>if b<w.heap.size then(match G.ω b with | some (.slot t j)=>some (.slot t j) | _=>none) else none,c.bl⟩
def fF{b i:Nat}{j:Option Nat}:G.Z4.ω b=some (.obj i j)↔G.ω b=some (.obj i j):=by
 simp  [Gh.Z4]
 grind
def bz(hi:Inv cx G a w A σ){b:Nat}(h:cx.K b):G.Xc w b:=
 ⟨Bj (hi.base.Klt b h) hi.base.grow,λi j c=>(hi.base.own b _ c).2 h⟩
def RQ(hi:Inv cx G a w A σ):cx.K 0/\∃m,w.cell? ⟨0,0,none⟩=some (.int .i64 m):=
 hi.base.Klt.tab.imp id λ⟨m,h⟩=>⟨m,(nC (hi.base.keep 0 hi.base.Klt.tab.1)).trans h⟩
def vB(hi:Inv cx G a w A σ):Pre (G.Xc w) G.Z4 w σ:=by
 refine⟨hi.base.lt,⟨λb h=>h.1,⟨bz hi (RQ hi).1,(RQ hi).2⟩⟩,λb c h=>?_,λid cs h=>Jp.congr (G:=G) (G':=G.Z4) rfl (λb i j h=>fF.2 h) rfl (hi.obj id cs h),hi.len,hi.abl⟩
 have:∃i j,c=.obj i j:=by
  simp only[Gh.Z4] at h
  split at h
  ·cases h;exact⟨_,_,rfl⟩
  ·cases h
 obtain⟨i,j,rfl⟩:=this;rw[fF] at h;exact⟨(hi.base.own b _ h).1,λd=>d.2 i j h⟩
def yx{c:Gh}{b i:Nat}{j:Option Nat}(h:c.ω b=some (.obj i j)):(G.back w c).ω b=some (.obj i j):=by
 simp  [Gh.back,h]
def xO{e:Gh}{k:World}{g:Sto}(c:Aft (G.Xc w) G.Z4 w g e k)(hi:Inv cx G a w A σ):Ext (λm=>∃i j,m=.obj i j) G (G.back w e) w k:=by
 refine⟨c.sub,c.same,c.bl,by simp,λb d h r=>?_⟩
 cases d with
 |obj i j=>grind
 |slot t j=>
  have f:G.Xc w b:=⟨(hi.base.own b _ h).1,λi j q=>by grind⟩
  have n:e.ω b=none:=by
   cases p:e.ω b with
   |none=>rfl
   |some d=>exact absurd f (c.own b _ p).2
  refine⟨by simp  [Gh.back,n,f.1,if_true,h],c.keep b f,λx o=>?_⟩
  rcases c.new b x o with l | l
  ·exact l
  grind
def pU{l:Gh}{m:World}{g:Sto}(c:Aft (G.Xc w) G.Z4 w g l m)(hi:Inv cx G a w A σ):Base cx (G.back w l) m:=by
 refine⟨λb h=>?_,hi.base.same.trans c.same hi.base.sub,λb x h=>c.sub b x (hi.base.sub b x h),λb x h=>?_,c.lt,λb n h=>?_,hi.base.Klt,Bf hi.base.grow c.grow,hi.base.bl.trans c.bl,c.os.trans hi.base.os,c.tape.trans hi.base.tape,c.output.trans hi.base.output⟩
 ·rw[c.keep b (bz hi h)];exact hi.base.keep b h
 ·rcases c.new b x h with d | d
  ·exact hi.base.new b x d
  ·exact .inr λk=>d (bz hi k)
 ·simp  [Gh.back] at h
  split at h
  ·rename_i i j e;have:=c.own b _ e;exact⟨this.1,λk=>this.2 (bz hi k)⟩
  ·split at h
   ·rename_i f
    split at h
    ·rename_i t j e;exact⟨Bj f c.grow,(hi.base.own b _ e).2⟩
    ·cases h
   ·cases h
def xB{p:Gh}{s:World}{v:Value}{r:PV}(hi:Inv cx G a w A σ)(l:Aft (G.Xc w) G.Z4 w σ' p s)(f:Option Nat)(k:∀d,f=some d->d<cx.nt/\(cx.kd d).val=true)
  (B:BF p.I p.bl s v r):Inv cx (G.back w p) (a.put f v) s (JJ A f r.Ag) σ':=by
 have o:=B.Ag;refine hi.step _ _ v (xO l hi) (pU l hi) (by cases f<;>simp[JJ]) ?_ (λid cs g=>.inr (Jp.congr (G:=p) rfl (λb i j h=>yx h) rfl (l.obj _ _ g))) l.len l.abl
 intro t q n;cases f with
 |none=>exact .inl ⟨n,by simp,by simp,by simp,by simp⟩
 |some d=>
  let ⟨u,c⟩:=k d rfl
  simp  [JJ,Dp] at n
  split at n
  ·rename_i g;cases n;refine .inr ?_
   rw[g.1,Ch c o.free,Gc _ _ _ (by rw[hi.size];exact u)]
   exact⟨o,Ct r⟩
  ·rename_i g;refine .inl ⟨n,λe=>(λe=>g ⟨e.symm,by have:=hi.room;omega⟩) (Option.some.inj e),by simp,λD off e y x=>?_,λm z=>⟨λx=>?_,by simp⟩⟩
   ·cases x;rw[y] at c;simp[SK.val] at c
   ·cases x
    let ⟨_,C⟩:=cx.ents t d z
    rw[C] at c;simp[SK.val] at c
def Gh.bare(G:Gh):Gh:=⟨G.I,λ_=>none,Bl.nil⟩
def Gh.after(G:Gh)(w:World)(c:Gh):Gh:=⟨c.I,λb=>if b<w.heap.size then G.ω b else none,G.bl⟩
def vC(hi:Inv cx G a w A σ):Pre (λb=>b<w.heap.size) G.bare w []:=
 ⟨hi.base.lt,⟨λb h=>h,⟨Bj (hi.base.Klt 0 (RQ hi).1) hi.base.grow,(RQ hi).2⟩⟩,λb c h=>(by cases h),λid cs h=>(by simp at h),rfl,λid g a h=>(by cases h)⟩
def oV{i:Gh}{k:World}{v:Value}{r:PV}(hi:Inv cx G a w A σ)(c:Aft (λb=>b<w.heap.size) G.bare w σ' i k)(e:Option Nat)(l:∀d,e=some d->d<cx.nt/\(cx.kd d).val=true)
  (o:BF i.I i.bl k v r) (q:r.flat=true):Inv cx (G.after w i) (a.put e v) k (JJ A e r.Ag) σ:=by
 have j:Ext (λ_=>False) G (G.after w i) w k:=by
  refine⟨c.sub,c.same,Bl.le_refl _,λ_ _ _ _=>rfl,λb m h _=>?_⟩
  have f:=(hi.base.own b m h).1;refine⟨by simp  [Gh.after,f,if_true,h],c.keep b f,λx p=>?_⟩
  rcases c.new b x p with n | n
  ·exact n
  grind
 have g:Base cx (G.after w i) k:=by
  have s  := λb h=>Bj (hi.base.Klt b h) hi.base.grow
  refine⟨λb h=>?_,hi.base.same.trans c.same hi.base.sub,λb x h=>c.sub b x (hi.base.sub b x h),λb x h=>?_,c.lt,λb m h=>?_,hi.base.Klt,Bf hi.base.grow c.grow,hi.base.bl,c.os.trans hi.base.os,c.tape.trans hi.base.tape,c.output.trans hi.base.output⟩
  ·rw[c.keep b (s b h)];exact hi.base.keep b h
  ·rcases c.new b x h with n | n
   ·exact hi.base.new b x n
   grind
  ·simp only[Gh.after] at h
   split at h
   ·rename_i f;exact⟨Bj f c.grow,(hi.base.own b _ h).2⟩
   ·cases h
 exact hi.M9 j g rfl e l (by rw[Di];exact o.free) (.one (.inl ((o.flat q).Ag))) (λ_ _=>Ct r)
def Me(hi:Inv cx G a w A σ)(b:∀t,cx.kd t=fi.kind t){xs:Array Operand}{d:List CW}(h:Ar fi xs.toList=some d){ps:List PV}(e:Cc A d=some ps)(g:ps.all PV.free=true):
  FX G.I G.bl w (xs.map a.eval).toList ps:=by
 let ⟨_,_⟩:=UQ hi b h e (λp c=>Au.1 g p c)
 refine⟨by grind,λi p c=>?_⟩
 have f:i<xs.size:=by grind
 have j:xs.toList[i]?=some xs[i]:=by simp
 grind
def FX.bare{vs:List Value}{ps:List PV}(h:FX G.I G.bl w vs ps)(e:ps.all PV.flat=true):FX G.I Bl.nil w vs ps:=
 ⟨h.1,λi p b=>let ⟨v,c,d⟩:=h.2 i p b;⟨v,c,.one (.inl (d.flat (Au.1 e p (Am b))))⟩⟩
def aC(p:PV):p.Ag.flat=p.flat:=by cases p<;>rfl
def Pm(ps:List PV):∀p∈ps.map PV.Ag,p.Ag=p:=by
 intro p b;obtain⟨q,_,rfl⟩:=E8.1 b;exact Oo q
def qw{o:Oper}{k:AK}{f:List CW}{p:PV}(c:([some p]:List (Option PV)).length=o.dst.toList.length+([]:List Nat).length->A'=Dw A ({ dst:=o.dst,k:=k,args:=f }:AOp).wr ([some p]++([]:List Nat).map λ_=>none))
  (e:([some p]:List (Option PV)).length≠o.dst.toList.length+([]:List Nat).length->A'=A/\o.dst=none):A'=JJ A o.dst p:=by
 cases b:o.dst with
 |none=>
  rw[b] at e;exact(e (by simp)).1
 |some d=>
  rw[b] at c;rw[c rfl];rfl
def QT{ro:Option Nat}{n:Nat}{o:Oper}{c:Call}{K:Act->World->Prop}{Q:Exit->Act->World->Prop}(u:Iu P call)(hi:Inv cx G a w A σ)(t:o.op=.call c){x:Operand}(k:c.callee=.value x){f:FuncId}{fs cs:Array Value}(q:a.eval x=.func (.func f) fs cs)
  (h:∀d,o.dst=some d->d<cx.nt/\(cx.kd d).val=true) {ps:List PV} (b:FX G.I G.bl w (fs++c.args.map a.eval++cs).toList ps) {r:PV} {j:Sto}
  (g:call f (ps.map PV.Ag) σ=some (r,j)) (p:∀a' m,Sim cx a' m (JJ A o.dst r.Ag) j->Kept o.dst a a'->K a' m):o.wpIn (FW ro) n P a w K Q:=by
 let ⟨i,l⟩:=u f _ _ r _ (Pm _) g
 refine Si t k q i ((l 0 _ w G.Z4 _ b.Ag (vB hi)).mono ?_)
 rintro e m ⟨v,z,rfl,y,s⟩
 exact⟨v,rfl,p _ _ ⟨_,xB hi s _ h y⟩ (Nj _ _ _)⟩
def KU{ro:Option Nat}{n:Nat}{o:Oper}{c:Call}{K:Act->World->Prop}{Q:Exit->Act->World->Prop}(z:Iu P call)(hi:Inv cx G a w A σ)(u:o.op=.call c){x:Operand}(k:c.callee=.value x){f:FuncId}{fs cs:Array Value}(B:a.eval x=.func (.func f) fs cs)
  (i:∀d,o.dst=some d->d<cx.nt/\(cx.kd d).val=true) {ps:List PV} (h:FX G.I G.bl w (fs++c.args.map a.eval++cs).toList ps) (g:(ps.map PV.Ag).all PV.flat=true) {r:PV} {p:Sto}
  (b:call f (ps.map PV.Ag) []=some (r,p)) (m:r.flat=true) (y:∀a' q,Sim cx a' q (JJ A o.dst r.Ag) σ->Kept o.dst a a'->K a' q):o.wpIn (FW ro) n P a w K Q:=by
 let ⟨j,l⟩:=z f _ _ r _ (Pm _) b
 refine Si u k B j ((l 0 _ w _ _ (h.Ag.bare g) (vC hi)).mono ?_)
 rintro e q ⟨v,C,rfl,s,t⟩
 exact⟨v,rfl,y _ _ ⟨_,oV hi t _ i s m⟩ (Nj _ _ _)⟩
def MJ{ps:List PV}(h:ps.all PV.flat=true):(ps.map PV.Ag).all PV.flat=true:=by
 rw[List.all_map];rw[Au] at h ⊢;intro p b;simpa [aC] using h p b
def BjK{ro:Option Nat}{n:Nat}{o:Oper}{c:Call}{K:Act->World->Prop}{Q:Exit->Act->World->Prop}(s:Iu P call)(hi:Inv cx G a w A σ)(g:∀t,cx.kd t=fi.kind t)(l:cx.nt=fi.nt)(r:o.op=.call c){f:FuncId}(h:c.callee=.value (.func f))
  {p:List CW} (v:Ar fi c.args.toList=some p) (z:BK fi o.dst=true) (e:Cb pur call { dst:=o.dst,k:=.c f,args:=p } A σ=some (A',σ'))
  (y:∀a' q,Sim cx a' q A' σ'->Kept o.dst a a'->K a' q):o.wpIn (FW ro) n P a w K Q:=by
 let ⟨_,_,u,b,i,k⟩:=KA e
 simp only[sem] at b
 split at b
 ·rename_i m;simp only[Aj] at m
  let ⟨_,d,b⟩:=AB.1 b
  split at b
  ·rename_i j;cases b;have x:=qw i k;subst x;refine KU s hi r h rfl (Eg g l z) ?_ (MJ m.2) d j y
   simpa using Me hi g v u m.1
  ·cases b
 ·cases b
def uF{ro:Option Nat}{n:Nat}{o:Oper}{c:Call}{K:Act->World->Prop}{Q:Exit->Act->World->Prop}(s:Iu P call)(hi:Inv cx G a w A σ)(e:∀t,cx.kd t=fi.kind t)(j:cx.nt=fi.nt)(v:o.op=.call c){f:FuncId}(g:c.callee=.value (.func f))
  {x:List CW} (B:Ar fi c.args.toList=some x) (D:BK fi o.dst=true) (k:Cb pur call { dst:=o.dst,k:=.w (.call f),args:=x } A σ=some (A',σ'))
  (u:∀a' C,Sim cx a' C A' σ'->Kept o.dst a a'->K a' C):o.wpIn (FW ro) n P a w K Q:=by
 obtain⟨ps,E,y,d,i,l⟩:=KA k;simp only[sem,Fj] at d
 split at d
 ·rename_i z
  split at d
  ·split at d
   ·rename_i h;obtain⟨⟨r,m⟩,b,d⟩:=AB.1 d
    split at d
    ·rename_i q;cases d;have p:=qw i l;subst p;refine KU s hi v g (f:=f) rfl (Eg e j D) ?_ (MJ h) b q u
     simpa using Me hi e B y z
    ·cases d
   ·cases d
  ·obtain⟨⟨r,m⟩,b,d⟩:=Ac.1 d;cases d;have p:=qw i l;subst p;refine QT s hi v g (f:=f) (fs:=#[]) rfl (Eg e j D) (ps:=ps) ?_ b u
   simpa using Me hi e B y z
 ·cases d
def xJ(ps:List PV){vs:List PV}{σ σ':Sto}(h:Uf ps σ=some (vs,σ')){G:Gh}(hi:Inv cx G a w A σ):
  ∃G',Inv cx G' a w A σ'/\G'.bl=G.bl/\(∀b x,G.I b x->G'.I b x)/\vs.length=ps.length/\∀(i:Nat) (p q:PV),ps[i]?=some p->vs[i]?=some q->∀c,JZ G.I G.bl w c p.Ck->Rep G'.I w c q:=by
 have d:∀(ps vs:List PV) (σ σ':Sto),Uf ps σ=some (vs,σ')->Uf (ps.map PV.Ck) σ=some (vs,σ'):=by
  intro ps
  induction ps with
  |nil=>intro vs σ σ' h;exact h
  |cons c cs j=>
   intro vs σ σ' h;cases c with
   |arr id gen off len size=>
    simp only[Uf,Bu,PV.Ck] at h ⊢
    split at h
    ·split at h
     ·obtain⟨⟨us,f⟩,g,e⟩:=Ac.1 h
      grind
     ·cases h
    ·cases h
   |_=>
    simp only[Uf,Bu,PV.Ck] at h ⊢
    split at h
    ·rename_i o;obtain⟨⟨us,f⟩,g,e⟩:=Ac.1 h;cases e
     first
      |grind
      |(rw[j _ _ _ g];rfl)
    ·cases h
 obtain⟨G',l,r,m,n,k⟩:=QJ _ (d ps vs σ σ' h) hi
 grind
def nP{ro:Option Nat}{n:Nat}{o:Oper}{c:Call}{d:Nat}{K:Act->World->Prop}{Q:Exit->Act->World->Prop}(V:Iu P call)(hi:Inv cx G a w A σ)(C:∀t,cx.kd t=fi.kind t)(F:cx.nt=fi.nt)(ho:o.op=.call c){f:FuncId}(B:c.callee=.value (.func f))
  (s:o.dst=some d) {S:List CW} (hc:Ar fi c.args.toList=some S) (T:BK fi o.dst=true) (D:Cb pur call { dst:=o.dst,k:=.w (.callz f),args:=S } A σ=some (A',σ'))
  (hk:∀a' E,Sim cx a' E A' σ'->Kept o.dst a a'->K a' E):o.wpIn (FW ro) n P a w K Q:=by
 obtain⟨ps,rs,Z,u,I,N⟩:=KA D;simp only[sem,Fj] at u
 split at u
 case isFalse=>cases u
 rename_i hf;obtain⟨⟨r,X⟩,p,u⟩:=AB.1 u;obtain⟨⟨r',W⟩,b,u⟩:=Ac.1 u;cases u;have hA:=qw I N;subst hA;have v:=Eg C F T;refine QT V hi ho B (f:=f) (fs:=#[]) (cs:=#[]) rfl v (ps:=ps) (by simpa using Me hi C hc Z hf) p (λa' E h x=>hk a' E ?_ x)
 unfold o5 at b;dsimp only at b p h
 split at b
 ·rename_i cs;obtain⟨⟨us,σ3⟩,U,e⟩:=Ac.1 b;cases e;obtain⟨G1,g⟩:=h;obtain⟨G',m,hbl,hI,y,j⟩:=xJ cs U g;rw[s] at g m ⊢;obtain⟨L,l⟩:=v d s;have k:d<A.length:=by have:=hi.room;omega
  have M:Frm.get (JJ A (some d) (PV.aggr cs).Ag) d=some (.aggr (cs.map PV.Ck)):=by
   simp only[JJ,Dp,k,and_self,if_true];rfl
  have z:=((Ch l rfl).1 (g.slot d _ M)).1;obtain⟨vcs,ev,R,Y⟩:=z.UY
  have:=m.reset (d:=d) (p:=.agg us) ((Ch l rfl).2 ⟨.one (.inl (by
   rw[ev];refine .agg (by rw[R,Ap,y]) λi q hq=>?_
   have J:i<cs.length:=by grind
   exact j i _ q (Af J) hq _ (Y i _ (by grind)))),trivial⟩)
  simp only[JJ,List.set_set] at this ⊢;exact⟨G',this⟩
 ·rename_i id gen off len size
  split at b
  case h_2=>cases b
  rename_i es O
  split at b
  case isFalse=>cases b
  rename_i H;cases b;obtain⟨G1,g⟩:=h;obtain⟨G',m,j⟩:=Ue g O H;rw[s] at g m ⊢;obtain⟨L,l⟩:=v d s;have k:d<A.length:=by have:=hi.room;omega
  have M:Frm.get (JJ A (some d) (PV.arr id gen off len size).Ag) d=some (.arr id gen off len size):=by
   simp only[JJ,Dp,k,and_self,if_true];rfl
  have z:=((Ch l rfl).1 (g.slot d _ M)).1;have:=m.reset (d:=d) (p:=.slice false size es) ((Ch l rfl).2 ⟨.one (.inl (j _ z)),trivial⟩);simp only[JJ,List.set_set] at this ⊢;exact⟨G',this⟩
 ·cases b;exact h
def UT{fs:Array Value}{ps:List PV}(d:fs.size=ps.length)(c:∀(i:Nat) (p:PV),ps[i]?=some p->JZ G.I G.bl w (fs.getD i undef) p):FX G.I G.bl w fs.toList ps:=by
 refine⟨am,λi p b=>?_⟩
 exact⟨_,by simp[Array.getD,(by grind: i<fs.size)],.one (c i p b)⟩
def nQ{ro:Option Nat}{n:Nat}{o:Oper}{c:Call}{K:Act->World->Prop}{Q:Exit->Act->World->Prop}(C:Iu P call)(hi:Inv cx G a w A σ)(g:∀t,cx.kd t=fi.kind t)(m:cx.nt=fi.nt)(E:o.op=.call c){x:Operand}(h:c.callee=.value x)
  {v:List CW} (V:Ar fi (x::c.args.toList)=some v) (D:BK fi o.dst=true) (q:Cb pur call { dst:=o.dst,k:=.w .DC,args:=v } A σ=some (A',σ'))
  (z:∀a' B,Sim cx a' B A' σ'->Kept o.dst a a'->K a' B):o.wpIn (FW ro) n P a w K Q:=by
 let ⟨ps,X,I,b,k,l⟩:=KA q
 obtain⟨y,zs,rfl,W,T⟩:=AX V;obtain⟨p,U,rfl,R,M⟩:=Av I
 simp  [sem] at b
 cases p with
 |func f j cap=>
  let ⟨fs,cs,F,N,L,S,H⟩:=(Bq hi g W R rfl).L8
  simp only[Fj] at b
  split at b
  ·rename_i O
   have e:FX G.I G.bl w (fs++c.args.map a.eval++cs).toList (j++U++cap):=by
    rw[Array.toList_append,Array.toList_append];exact((UT N S).append (Me hi g T M O)).append (UT L H)
   split at b
   ·split at b
    ·rename_i i
     let ⟨⟨r,J⟩,d,b⟩:=AB.1 b
     split at b
     ·rename_i u;cases b;have s:=qw k l;subst s;exact KU C hi E h F (Eg g m D) e i d u z
     ·cases b
    ·cases b
   ·let ⟨_,d,b⟩:=Ac.1 b
    cases b;have s:=qw k l;subst s;exact QT C hi E h F (Eg g m D) e d z
  ·cases b
 |_=>simp[Fj] at b
end
end Go.Abs
