/- A part of the proof: G8 GL GC GN GD G5 D1. -/
import Derived.Test.YtapgnmhobbgmiaaGreatDoorKav
import Derived.KernelRfl

set_option linter.unusedVariables false
set_option linter.unusedSimpArgs false
namespace Go.Abs
open Go.RowKit
section
variable(pur:FuncId→Bool)(R:Nat→Caller)
def Zo(c:Db)(ff:FF)(σ:Sto)(e:Cu)(ff':FF)(σ':Sto):Prop:=∃N,∀n,N≤n→∀m,Fv pur (R n) m c ff σ=some (e,ff',σ')
def OpX(o:AOp)(ff:FF)(σ:Sto)(ff':FF)(σ':Sto):Prop:=∃N,∀n,N≤n→II pur (R n) o ff σ=some (ff',σ')
end
def Kc:Db→Bool
 |.seq a b=>Kc a&&Kc b
 |.cond _ a b=>Kc a&&Kc b
 |.block _ c=>Kc c
 |.loop _ _=>false
 |_=>true
section
variable{pur:FuncId→Bool}{R:Nat→Caller}{ff ff':FF}{σ σ':Sto}{tp tp':Tape}{q q':Prop}{e:Cu}
theorem W9{call:Caller}{o:AOp}(he:J6 pur LG o ff σ=some (ff',σ')):J6 pur call o ff σ=some (ff',σ'):=by
 obtain⟨vs,rs,σ1,h1,h2,h3⟩:=ZO he;rw[Nc h1 (Sr h2)];exact h3
theorem sV{call:Caller}{o:AOp}(he:II pur LG o ff σ=some (ff',σ')):II pur call o ff σ=some (ff',σ'):=by
 cases hg:o.guard with
 |none=>rw[OJ hg] at he ⊢;exact W9 he
 |some g=>
  cases hw:Hd (EK ff g.1) g.2 with
  |none=>
   unfold II at he;rw[hg] at he;dsimp only at he;rw[hw] at he;cases he
  |some d=>
   rw[GZ hg hw] at he ⊢;cases d with
   |true=>exact W9 he
   |false=>exact he
theorem uU{o:AOp}{a:Ans}{x:TO}(h:JX pur R o ff σ tp q a=some x):x.q→OpX pur R o ff σ x.ff x.σ:=by
 cases a with
 |br b=>cases h
 |loop ls e f s=>cases h
 |res rs u=>
  cases hg:o.guard with
  |some g=>simp only[JX,hg] at h;cases h
  |none=>
   simp only[JX,hg] at h;cases hv:Eu ff o.args with
   |none=>rw[hv] at h;cases h
   |some vs=>
    rw[hv] at h;obtain⟨ff',σ',h1,rfl⟩:=Jo h;intro hq;obtain⟨N,hN⟩:=opW hq.1;refine⟨N,fun n hn=>?_⟩
    rw[OJ hg,Nc hv (hN n hn)];exact h1
 |grd d=>
  cases hg:o.guard with
  |none=>simp only[JX,hg] at h;cases h
  |some g=>
   simp only[JX,hg] at h;obtain⟨ff',σ',h1,rfl⟩:=Jo h;intro hq;refine⟨0,fun n _=>?_⟩
   rw[GZ hg hq.1];cases d with
   |true=>exact W9 h1
   |false=>exact h1
 |grdr rs u=>
  cases hg:o.guard with
  |none=>simp only[JX,hg] at h;cases h
  |some g=>
   simp only[JX,hg] at h;cases hv:Eu ff o.args with
   |none=>rw[hv] at h;cases h
   |some vs=>
    rw[hv] at h;obtain⟨ff',σ',h1,rfl⟩:=Jo h;intro hq;obtain⟨N,hN⟩:=opW hq.1;refine⟨N,fun n hn=>?_⟩
    rw[GZ hg hq.2.1,cond_true,Nc hv (hN n hn)];exact h1
theorem AZM{o:AOp}:∀{x:TO},tOp pur R o ff σ tp q=some x→x.q→OpX pur R o ff σ x.ff x.σ:=by
 unfold tOp;refine K8 (fun r=>∀{x:TO},r=some x→x.q→OpX pur R o ff σ x.ff x.σ) (fun t {x} h=>?_) (fun t a {x} h=>uU h)
 obtain⟨ff',σ',h1,rfl⟩:=Jo h;exact fun _=>⟨0,fun n _=>sV h1⟩
theorem nN:∀(os:List AOp) {ff:FF} {σ:Sto} {tp:Tape} {q:Prop} {x:TO},nO pur R os ff σ tp q=some x→x.q→Zo pur R (.region os) ff σ x.e x.ff x.σ
 |[],ff,σ,tp,q,x,h=>by cases h;exact fun _=>⟨0,fun n _ m=>rfl⟩
 |o::os,ff,σ,tp,q,x,h=>by
  have h':Uo (tOp pur R o ff σ tp q) (nO pur R os)=some x:=h;obtain⟨y,hy,hc⟩:=Nw h';have e1:=(VH hy).1;rcases hc with⟨_,hk⟩ | ⟨hne,_⟩
  ·intro hx;obtain⟨N1,H1⟩:=AZM hy ((Om os hk).1 hx);obtain⟨N2,H2⟩:=nN os hk hx;refine⟨max N1 N2,fun n hn m=>?_⟩
   show fJ pur (R n) (o::os) ff σ=_;rw[VS,H1 n (by omega)];exact H2 n (by omega) m
  ·exact absurd e1 hne
theorem AzD:∀(c:Db),Kc c=true→∀{ff:FF} {σ:Sto} {tp:Tape} {q:Prop} {x:TO},HZ pur R c ff σ tp q=some x→x.q→Zo pur R c ff σ x.e x.ff x.σ:=by
 intro c
 induction c with
 |skip=>intro _ ff σ tp q x h;cases h;exact fun _=>⟨0,fun n _ m=>rfl⟩
 |region ops=>intro _ ff σ tp q x h;exact nN ops h
 |exit i=>intro _ ff σ tp q x h;cases h;exact fun _=>⟨0,fun n _ m=>rfl⟩
 |ret=>intro _ ff σ tp q x h;cases h;exact fun _=>⟨0,fun n _ m=>rfl⟩
 |loop k c _=>intro h;cases h
 |seq a b iha ihb=>
  intro hl ff σ tp q x h;rw[Kc,Ai] at hl;have h':Uo (HZ pur R a ff σ tp q) (HZ pur R b)=some x:=h;obtain⟨y,hy,hc⟩:=Nw h';have hseq:∀n m,Fv pur (R n) m (.seq a b) ff σ=Option.rec (motive:=fun _=>RX) none (fun r=>cond (Gc r.1) (Fv pur (R n) m b r.2.1 r.2.2) (some r)) (Fv pur (R n) m a ff σ):=fun _ _=>rfl
  rcases hc with⟨he,hk⟩ | ⟨hne,rfl⟩
  ·intro hx;obtain⟨N1,H1⟩:=iha hl.1 hy ((Gj b hk).1 hx);obtain⟨N2,H2⟩:=ihb hl.2 hk hx;rw[he] at H1;refine⟨max N1 N2,fun n hn m=>?_⟩
   rw[hseq,H1 n (by omega) m];exact H2 n (by omega) m
  ·intro hx;obtain⟨N1,H1⟩:=iha hl.1 hy hx;refine⟨N1,fun n hn m=>?_⟩
   rw[hseq,H1 n hn m];obtain⟨e,f,s,t,qq⟩:=y;cases e with
   |normal=>exact absurd rfl hne
   |exit i=>rfl
   |ret=>rfl
 |cond c a b iha ihb=>
  intro hl ff σ tp q x h;rw[Kc,Ai] at hl;have hcond:∀n m,Fv pur (R n) m (.cond c a b) ff σ=dI (Eu ff [c]) (Fv pur (R n) m a ff σ) (Fv pur (R n) m b ff σ):=fun _ _=>rfl
  have key:∀(bb:Bool) (t:Tape) (qq:Prop),Eu ff [c]=some [.bool bb]→cond bb (HZ pur R a ff σ t qq) (HZ pur R b ff σ t qq)=some x→x.q→Zo pur R (.cond c a b) ff σ x.e x.ff x.σ:=by
   intro bb t qq hv hx hq;cases bb with
   |true=>
    obtain⟨N,H⟩:=iha hl.1 hx hq;refine⟨N,fun n hn m=>?_⟩
    rw[hcond,hv];exact H n hn m
   |false=>
    obtain⟨N,H⟩:=ihb hl.2 hx hq;refine⟨N,fun n hn m=>?_⟩
    rw[hcond,hv];exact H n hn m
  have h':Zv c (HZ pur R a) (HZ pur R b) ff σ tp q=some x:=h
  revert h'
  unfold Zv;refine K8 (fun r=>r=some x→x.q→Zo pur R (.cond c a b) ff σ x.e x.ff x.σ) (fun t hx=>?_) (fun t an hx=>?_)
  ·split at hx
   ·rename_i bb hv;exact key bb t q hv hx
   ·cases hx
  ·cases an with
   |br bb=>
    have hx':cond bb (HZ pur R a ff σ t (Eu ff [c]=some [.bool bb]∧q)) (HZ pur R b ff σ t (Eu ff [c]=some [.bool bb]∧q))=some x:=hx
    have hq:x.q→(Eu ff [c]=some [.bool bb]∧q):=by
     cases bb with
     |true=>exact(Gj a hx').1
     |false=>exact(Gj b hx').1
    exact fun hq'=>key bb t _ (hq hq').1 hx' hq'
   |_=>cases hx
 |block id c ih=>
  intro hl ff σ tp q x h;have hl':Kc c=true:=hl;have h':eD id (HZ pur R c ff σ tp q)=some x:=h;have hb:∀n m,Fv pur (R n) m (.block id c) ff σ=Option.rec (motive:=fun _=>RX) none (fun r=>Cu.rec (motive:=fun _=>RX) (some r) (fun i=>cond (Nat.beq i id) (some (.normal,r.2)) (some r)) (some r) r.1) (Fv pur (R n) m c ff σ):=fun _ _=>rfl
  cases hr:HZ pur R c ff σ tp q with
  |none=>rw[hr] at h';cases h'
  |some y=>
   rw[hr] at h';have ho:=ih hl' hr;obtain⟨e,f,s,t,qq⟩:=y;cases e with
   |normal=>
    cases h';intro hq;obtain⟨N,H⟩:=ho hq;exact⟨N,fun n hn m=>by rw[hb,H n hn m]⟩
   |ret=>
    cases h';intro hq;obtain⟨N,H⟩:=ho hq;exact⟨N,fun n hn m=>by rw[hb,H n hn m]⟩
   |exit i=>
    have h'':cond (Nat.beq i id) (some (⟨.normal,f,s,t,qq⟩:TO)) (some ⟨.exit i,f,s,t,qq⟩)=some x:=h';cases hi:Nat.beq i id with
    |true=>
     rw[hi] at h'';cases h'';intro hq;obtain⟨N,H⟩:=ho hq;exact⟨N,fun n hn m=>by rw[hb,H n hn m];dsimp only;rw[hi];rfl⟩
    |false=>
     rw[hi] at h'';cases h'';intro hq;obtain⟨N,H⟩:=ho hq;exact⟨N,fun n hn m=>by rw[hb,H n hn m];dsimp only;rw[hi];rfl⟩
end
end Go.Abs

namespace Go.Abs.Z
open Go.Proofs Go.RowKit
noncomputable def exG(ac:Db)(A:Frm)(σ:Sto)(tp:Tape):Option (Cu×Frm×Sto×Prop):=
 cond (GG A.length ac&&Kc ac) ((HZ pur run ac (ofF A 0) σ tp True).map fun x=>(x.e,toF x.ff A.length,x.σ,x.q)) none
def FEx(ac:Db)(A:Frm)(σ:Sto)(e:Cu)(A':Frm)(σ':Sto):Prop:=∃N,∀n,N≤n→∀m,UL pur (run n) m ac A σ=some (e,A',σ')
theorem FT{ac:Db}{A A':Frm}{σ σ':Sto}{e:Cu}(l:List Stp)(h:exG ac A σ (Mk l)=some (e,A',σ',qOf l True):=by kernel_rfl):FEx ac A σ e A' σ':=by
 have hq:=Ov l trivial
 revert hq h
 generalize qOf l True=q;generalize Mk l=tp;intro h hq;unfold exG at h;cases hb:(GG A.length ac&&Kc ac) with
 |false=>rw[hb] at h;cases h
 |true=>
  rw[hb] at h;rw[Ai] at hb;obtain⟨x,hx,he⟩:=Ac.1 h;cases he;obtain⟨N,H⟩:=AzD ac hb.2 hx hq;refine⟨N,fun n hn m=>?_⟩
  unfold UL;rw[hb.1,H n hn m];rfl
end Go.Abs.Z

namespace Go.Abs.Z
open Go.Proofs Go.RowKit
def nn(k:Nat):Frm:=List.replicate k none
theorem AQF(T:Tr)(σ:Sto):FEx (lf61.pre.getD 0 .skip) (some T.pv::nn 9) σ .normal (some T.pv::some (.vptr T.pv)::some (.int .i64 0)::nn 7) σ:=
 FT [sp 0 (DD T)]
theorem AQE(T:Tr)(σ:Sto):FEx (lf61.pre.getD 1 .skip) (some T.pv::some (.vptr T.pv)::some (.int .i64 0)::nn 7) σ .normal (some T.pv::some (.vptr T.pv)::some (.int .i64 0)::some (.int .i64 0)::nn 6) σ:=
 FT []
theorem R20:Rn 120 BwO:=fun _ _ _=>rfl
theorem r20(T:Tr):E 120 [T.pv] [] (.func 169 [] [.vptr T.pv]) []:=rule R20 [sp 0 (DD T)]
theorem AQD(T:Tr)(σ:Sto):FEx lf61.rg (some T.pv::some (.vptr T.pv)::some (.int .i64 0)::some (.int .i64 0)::nn 6) σ .normal (some T.pv::some (.vptr T.pv)::some (.int .i64 0)::some (.int .i64 0)::some T.pv::some (.func 169 [] [.vptr T.pv])::nn 4) σ:=
 FT [st 0 (QS σ (Bu T)),st 0 (Fy (vs:=[T.pv]) (σ:=σ) (r':=.func 169 [] [.vptr T.pv]) (r20 T) (by simp[T.F9]) (by simp[T.Ik,T.RB]) rfl (by simp[PV.Ae,T.F9]))]
end Go.Abs.Z

namespace Go.Abs.Z
mutual
theorem Tr.Gt:∀T:Tr,T.pv.CE=true
 |.mk k t a e n ks=>by
  have h:=Tr.Ng ks;cases n
  ·simp[Tr.pv,PV.CE,PV.CP,h]
  ·simp[Tr.pv,PV.CE,PV.CP]
theorem Tr.Ng:∀l:List Tr,PV.CP (Tr.pvs l)=true
 |[]=>rfl
 |T::l=>by simp[Tr.pvs,PV.CP,Tr.Gt T,Tr.Ng l]
end
end Go.Abs.Z

namespace Go.Abs.Z
open Go.Proofs Go.RowKit
theorem FC{p:PV}(h:p.CE=true):FQ p=false:=by simp[FQ,h]
def cF(T:Tr)(j:Nat):Frm:=some T.pv::some (.vptr T.pv)::some (.int .i64 0)::some (N j)::some T.pv::some (.func 169 [] [.vptr T.pv])::nn 4
theorem tJ(T x:Tr)(σ:Sto)(j:Nat):FEx lf61.aca (some T.pv::some (.vptr T.pv)::some (.int .i64 0)::some (N j)::some T.pv::some (.func 169 [] [.vptr T.pv])::some x.pv::nn 3) σ .normal (some T.pv::some (.vptr T.pv)::some (.int .i64 0)::some (N j)::some T.pv::some (.func 169 [] [.vptr T.pv])::some x.pv::nn 3) σ:=
 FT []
theorem tK(T x:Tr)(σ:Sto)(j:Nat)(h:j<2000000000):FEx lf61.ac (some T.pv::some (.vptr T.pv)::some (.int .i64 0)::some (N j)::some T.pv::some (.func 169 [] [.vptr T.pv])::some x.pv::nn 3) σ .normal
  (some T.pv::some (.vptr T.pv)::some (.int .i64 0)::some (N (j+1))::some T.pv::some (.func 169 [] [.vptr T.pv])::some x.pv::some (N j)::some (N (j+1))::nn 1) σ:=
 FT [sp 1 (AB j 1 h)]
theorem Ij{σ:Sto}(hσ:σ.all PV.CP=true)(A:Frm)(hA:A.all (fun v=>match v with | some p=>p.CE | none=>true)=true):quiet A σ=true:=by
 unfold quiet;rw[Ai];exact⟨hA,hσ⟩
theorem ma(T x:Tr)(σ:Sto)(hσ:σ.all PV.CP=true)(j:Nat)(h:j<2000000000):
  ∃N,∀n,N≤n→∀m,KS pur (run n) m lf61.aca lf61.ac lf61.La lf61.L (nn 10) lf61.ds [x.pv] (cF T j) σ=some (cF T (j+1),σ):=by
 obtain⟨N1,H1⟩:=tJ T x σ j;obtain⟨N2,H2⟩:=tK T x σ j h;refine⟨max N1 N2,fun n hn m=>?_⟩
 unfold KS;rw[show OL lf61.ds [x.pv] (cF T j)=some T.pv::some (.vptr T.pv)::some (.int .i64 0)::some (N j)::some T.pv::some (.func 169 [] [.vptr T.pv])::some x.pv::nn 3 from rfl,H1 n (by omega) m]
 dsimp only
 have k1:C9 lf61.La (some T.pv::some (.vptr T.pv)::some (.int .i64 0)::some (N j)::some T.pv::some (.func 169 [] [.vptr T.pv])::some x.pv::nn 3)=some T.pv::some (.vptr T.pv)::some (.int .i64 0)::some (N j)::some T.pv::some (.func 169 [] [.vptr T.pv])::some x.pv::nn 3:=by
  have e1:=T.Ik;have e2:=x.Ik;simp only[C9,lf61,nn,List.zipWith,Option.filter,e1,e2];rfl
 have k2:C9 lf61.L (some T.pv::some (.vptr T.pv)::some (.int .i64 0)::some (N (j+1))::some T.pv::some (.func 169 [] [.vptr T.pv])::some x.pv::some (N j)::some (N (j+1))::nn 1)=cF T (j+1):=by
  have e1:=T.Ik;simp only[C9,lf61,nn,List.zipWith,Option.filter,e1];rfl
 have q1:quiet (Ec (nn 10) (some T.pv::some (.vptr T.pv)::some (.int .i64 0)::some (N j)::some T.pv::some (.func 169 [] [.vptr T.pv])::some x.pv::nn 3)) σ=true:=by
  refine Ij hσ _ ?_
  have e1:=T.Gt;have e2:=x.Gt;simp[Ec,nn,PV.CE,PV.CP,e1,e2,N]
 have q2:quiet (Ec (nn 10) (cF T (j+1))) σ=true:=by
  refine Ij hσ _ ?_
  have e1:=T.Gt;simp[Ec,cF,nn,PV.CE,PV.CP,e1,N]
 rw[k1,if_pos ⟨q1,rfl⟩,show IZ (nn 10) (some T.pv::some (.vptr T.pv)::some (.int .i64 0)::some (N j)::some T.pv::some (.func 169 [] [.vptr T.pv])::some x.pv::nn 3)=some T.pv::some (.vptr T.pv)::some (.int .i64 0)::some (N j)::some T.pv::some (.func 169 [] [.vptr T.pv])::some x.pv::nn 3 from rfl,H2 n (by omega) m]
 dsimp only;rw[k2,if_pos ⟨q2,rfl⟩];rfl
theorem dJ(T:Tr)(σ:Sto)(hσ:σ.all PV.CP=true):∀(L:List Tr) (j:Nat),j+L.length<2000000000→
  ∃N,∀n,N≤n→∀m,Ia pur (run n) m lf61.aca lf61.ac lf61.La lf61.L (nn 10) lf61.ds (L.map fun x=>[x.pv]) (cF T j) σ=some (cF T (j+L.length),σ)
 |[],j,h=>⟨0,fun n _ m=>rfl⟩
 |x::L,j,h=>by
  rw[Al] at h;obtain⟨N1,H1⟩:=ma T x σ hσ j (by omega)
  obtain⟨N2,H2⟩:=dJ T σ hσ L (j+1) (by omega)
  refine⟨max N1 N2,fun n hn m=>?_⟩
  rw[Bv,Ia,H1 n (by omega) m]
  dsimp only;rw[H2 n (by omega) m,Al,show j+1+L.length=j+(L.length+1) from by omega]
theorem Bj9(n:Nat)(args:List PV)(σ:Sto):run (n+1) 61 args σ=Mx pur itr 1000 lf61 (run n) args σ:=rfl
theorem bM{call:Caller}{m:Nat}{f:LFn}{A X A2 A3:Frm}{σ σ2 σ3:Sto}{gf:FuncId}{caps:List PV}{xs:List (List PV)}{e:Cu}{r:PV×Sto}
  (hg:A.get f.g=some (.func gf [] caps)) (hi:itr gf caps=some xs) (hX:IU f.Lv A=X)
  (hc:quiet (Ec X (C9 f.L A)) σ=true∧A.length=f.L.length∧f.Lv.length=f.L.length∧f.Lr.length=f.L.length∧caps.all PV.flat=true∧xs.all (fun x=>x.length==f.nps)=true)
  (h1:Ia pur call m f.aca f.ac f.La f.L X f.ds xs (IZ X (C9 f.L A)) σ=some (A2,σ2)) (h2:UL pur call m f.post A2 σ2=some (e,A3,σ3))
  (h3:(e=.normal∨e=.ret)∧quiet (Ec X (C9 f.Lr A3)) σ3=true∧A3.length=f.Lr.length) (h4:YY f (Ec X (C9 f.Lr A3)) σ3=some r):jv pur call itr m f A σ=some r:=by
 subst hX;unfold jv;rw[hg];dsimp only;rw[hi];dsimp only;rw[if_pos hc,h1];dsimp only;rw[h2];dsimp only;rw[if_pos h3,h4]
theorem e7(T:Tr)(σ:Sto)(hσ:σ.all PV.CP=true){L:List Tr}(hL:I8 1000000 T.pv=some (L.map Tr.pv))(hs:L.length≤1000000000):E 61 [T.pv] σ (N L.length) σ:=by
 obtain⟨N1,H1⟩:=AQF T σ;obtain⟨N2,H2⟩:=AQE T σ;obtain⟨N3,H3⟩:=AQD T σ;obtain⟨N4,H4⟩:=dJ T σ hσ L 0 (by omega)
 obtain⟨N5,H5⟩:FEx lf61.post (cF T (0+L.length)) σ .ret (some T.pv::some (.vptr T.pv)::some (N (0+L.length))::some (N (0+L.length))::some T.pv::some (.func 169 [] [.vptr T.pv])::none::none::none::[some (N (0+L.length))]) σ:=FT [];refine Ns (max N1 (max N2 (max N3 (max N4 N5)))) fun n hn=>?_
 rw[Bj9]
 have hp:Qn pur (run n) 1000 lf61.pre ([T.pv].map some++List.replicate (lf61.ntmps+lf61.extra - [T.pv].length) none) σ=some (.normal,some T.pv::some (.vptr T.pv)::some (.int .i64 0)::some (.int .i64 0)::nn 6,σ):=by
  show Qn pur (run n) 1000 [lf61.pre.getD 0 .skip,lf61.pre.getD 1 .skip] (some T.pv::nn 9) σ=_;rw[Qn,H1 n (by omega) 1000]
  dsimp only;rw[Qn,H2 n (by omega) 1000]
  rfl
 have hx:IU lf61.Lv (cF T 0)=nn 10:=by
  have e1:=FC T.Gt;have e2:FQ (.vptr T.pv)=false:=FC (by simp[PV.CE,T.Gt])
  have e3:FQ (.func 169 [] [.vptr T.pv])=false:=FC (by simp[PV.CE,PV.CP,T.Gt])
  simp only[IU,lf61,cF,nn,List.zipWith,Option.filter,e1,e2,e3];rfl
 have hi:itr 169 [.vptr T.pv]=some ((L.map Tr.pv).map fun x=>[x.Ae]):=by
  unfold itr;rw[if_pos rfl];dsimp only;rw[hL];dsimp only;rw[if_pos (by simp[small,hs])]
 have hdis:((L.map Tr.pv).map fun x=>[x.Ae])=L.map fun x=>[x.pv]:=by
  rw[List.map_map];exact List.map_congr_left fun x _=>by show[x.pv.Ae]=_;rw[x.F9]
 rw[Mx,if_pos ⟨rfl,by show 1≤10;decide⟩,hp]
 dsimp only;rw[H3 n (by omega) 1000]
 dsimp only
 have k0:C9 lf61.L (cF T 0)=cF T 0:=by
  have e1:=T.Ik;simp only[C9,lf61,cF,nn,List.zipWith,Option.filter,e1];rfl
 have q0:quiet (Ec (nn 10) (C9 lf61.L (cF T 0))) σ=true:=by
  rw[k0];refine Ij hσ _ ?_
  have e1:=T.Gt;simp[Ec,cF,nn,PV.CE,PV.CP,e1,N]
 refine bM (f:=lf61) (A:=cF T 0) (X:=nn 10) rfl (hi.trans (congrArg some hdis)) hx ⟨q0,rfl,rfl,rfl,rfl,by simp<;>(intros;rfl)⟩ (by rw[k0];exact H4 n (by omega) 1000) (H5 n (by omega) 1000) ⟨.inr rfl,?_,rfl⟩ ?_
 ·refine Ij hσ _ ?_
  have e1:=T.Gt;have e2:=T.Ik;simp only[C9,lf61,nn,List.zipWith,Option.filter,e2];simp[Ec,PV.CE,PV.CP,PV.free,e1,N]
 ·have e2:=T.Ik;simp only[C9,lf61,nn,List.zipWith,Option.filter,e2];rw[Bq];rfl
end Go.Abs.Z

namespace Go.Abs.Z
open Go.Proofs Go.RowKit
structure Tk where
 k:Nat
 f:Nat
 a:Nat
 e:Nat
def Tk.pv(t:Tk):PV:=.agg [N t.k,N t.f,N t.a,N t.e]
structure Dg where
 c:Nat
 a:Nat
 e:Nat
 t:List UInt8
def Dg.pv(d:Dg):PV:=.agg [N d.c,N d.a,N d.e,.str d.t,.nils]
def pc(s:List UInt8)(ls:List Tk)(k l:Nat)(wr:PV)(b:Int):List PV:=[.str s,.slice true 4 (ls.map Tk.pv),N k,N l,wr,I b]
section
variable{s:List UInt8}{ls:List Tk}{k l:Nat}{wr:PV}{b:Int}{T:Sto}
theorem iJ{v x:PV}{off n:Nat}{ag:Bool}(h:sub v off n ag=some x):R6 v off n ag=some x:=by unfold R6;rw[h]
theorem iL{o:Nat}{v:PV}{cs:List PV}(hw:wr.isSelf=false)(hv:v.cells.length=1∧v.okc=true∧v.ones=true)(ho:o+1≤6)(h:EX (pc s ls k l wr b) o v.Ae.cells=cs):
  Bh pur run (.w (.st 1)) [.ref 0 o,v] (pc s ls k l wr b::T) [] (cs::T):=by
 have hs:(pc s ls k l wr b).any PV.isSelf=false:=by
  show(false||(false||(false||(false||(wr.isSelf||(false||false))))))=false
  rw[hw];rfl
 refine⟨0,fun n _=>?_⟩
 have hc:v.cells.length=1∧o+1≤(pc s ls k l wr b).length∧v.okc=true∧v.ones=true∧(pc s ls k l wr b).any PV.isSelf=false:=⟨hv.1,ho,hv.2.1,hv.2.2,hs⟩;show(if _ then _ else _)=_
 rw[if_pos hc,h];rfl
theorem stK(hw:wr.isSelf=false){j:Nat}:Bh pur run (.w (.st 1)) [.ref 0 2,N j] (pc s ls k l wr b::T) [] (pc s ls j l wr b::T):=iL hw ⟨rfl,rfl,rfl⟩ (by omega) rfl
theorem stL(hw:wr.isSelf=false){j:Nat}:Bh pur run (.w (.st 1)) [.ref 0 3,N j] (pc s ls k l wr b::T) [] (pc s ls k j wr b::T):=iL hw ⟨rfl,rfl,rfl⟩ (by omega) rfl
theorem stB(hw:wr.isSelf=false){z:Int}:Bh pur run (.w (.st 1)) [.ref 0 5,I z] (pc s ls k l wr b::T) [] (pc s ls k l wr z::T):=iL hw ⟨rfl,rfl,rfl⟩ (by omega) rfl
theorem stW(hw:wr.isSelf=false){v:PV}(hv:v.cells.length=1∧v.okc=true∧v.ones=true∧v.Ae.cells=[v]:=by exact⟨rfl,rfl,rfl,rfl⟩):Bh pur run (.w (.st 1)) [.ref 0 4,v] (pc s ls k l wr b::T) [] (pc s ls k l v b::T):=
 iL hw ⟨hv.1,hv.2.1,hv.2.2.1⟩ (by omega) (by rw[hv.2.2.2];rfl)
theorem UA{X:List PV}{o:Bool}{d:PV}(hd:(d.Ae,d.ones,d.okc)=(d,true,true)):Bh pur run (.w (.Gf 5)) [.nils,.slice o 5 [d]] (X::T) [some (.arr (T.length+1) 0 0 1 5)] (X::(T++[[.arrv 0 5 [d]]])):=by
 obtain⟨h1,h2⟩:=Prod.mk.inj hd;obtain⟨h2,h3⟩:=Prod.mk.inj h2;refine⟨0,fun n _=>?_⟩
 have hx:Kn 5 (X::T) (.slice o 5 [d])=some [d]:=by simp[Kn]
 show(match Kn 5 (X::T) (.slice o 5 [d]) with | some xs=>Gf 5 .nils xs (X::T) | none=>none)=_
 rw[hx];simp only[Gf];rw[if_neg (by simp),if_pos ⟨by simp[Bn],by simp[h2],by simp[h3]⟩]
 simp[h1]
theorem UB{X:List PV}{B:Sto}{g n:Nat}{Ds:List PV}{o:Bool}{d:PV}(hd:(d.Ae,d.ones,d.okc)=(d,true,true))(hn:Ds.length=n)(hm:n+1≤Bn):
  Bh pur run (.w (.Gf 5)) [.arr (B.length+1) g 0 n 5,.slice o 5 [d]] (X::(B++[[.arrv g 5 Ds]])) [some (.arr (B.length+1) (g+1) 0 (n+1) 5)] (X::(B++[[.arrv (g+1) 5 (Ds++[d])]])):=by
 subst hn;obtain⟨h1,h2⟩:=Prod.mk.inj hd;obtain⟨h2,h3⟩:=Prod.mk.inj h2
 have hr:KR (X::(B++[[.arrv g 5 Ds]])) (B.length+1) g 0 Ds.length 5=some Ds:=by
  unfold KR;simp[JH]
 refine⟨0,fun n _=>?_⟩
 have hx:Kn 5 (X::(B++[[.arrv g 5 Ds]])) (.slice o 5 [d])=some [d]:=by simp[Kn]
 show(match Kn 5 (X::(B++[[PV.arrv g 5 Ds]])) (.slice o 5 [d]) with | some xs=>Gf 5 (.arr (B.length+1) g 0 Ds.length 5) xs (X::(B++[[PV.arrv g 5 Ds]])) | none=>none)=_
 rw[hx];simp only[Gf,if_true,hr];rw[if_neg (by simp),if_pos ⟨hm,by simp[h2],by simp[h3]⟩]
 simp[h1]
end
theorem iI(j m:Nat)(h:m≤j)(hj:j<2000000000):Be (.bin .sub 0) [.int .i64 (j:Nat),.int .i64 (m:Nat)]=some [some (.int .i64 ((j - m:Nat):Int))]:=by
 apply WG;simp[IntKind.wrap,IntKind.bits,IntKind.signed];omega
theorem xQ(a b:Nat):Be .min [.int .i64 (a:Nat),.int .i64 (b:Nat)]=some [some (.int .i64 ((min a b:Nat):Int))]:=by
 show some [some (PV.int .i64 (if(b:Int) < a then(b:Int) else a))]=_
 congr 4
 split<;>omega
theorem AWN(a b:Int):Be .min [.int .i64 a,.int .i64 b]=some [some (.int .i64 (min a b))]:=by
 show some [some (PV.int .i64 (if b<a then b else a))]=_
 have:(if b<a then b else a)=min a b:=by rw[Int.min_def];split<;>split<;>omega
 rw[this]
theorem BO{o:Bool}{s:Nat}{ts:List Tk}{t:Tk}(j:Nat)(h:ts[j]?=some t):Be (.idx s) [.slice o s (ts.map Tk.pv),.int .i64 (j:Nat)]=some [some (.vptr t.pv)]:=SX _ _ _ _ _ (by rw[Am,h];rfl)
theorem JL{o:Bool}{s:Nat}{ts:List Dg}{t:Dg}(j:Nat)(h:ts[j]?=some t):Be (.idx s) [.slice o s (ts.map Dg.pv),.int .i64 (j:Nat)]=some [some (.vptr t.pv)]:=SX _ _ _ _ _ (by rw[Am,h];rfl)
theorem FL(o:Bool)(s:Nat)(ts:List Tk):Be (.len false) [.slice o s (ts.map Tk.pv)]=some [some (.int .i64 (ts.length:Nat))]:=by
 show some [some (PV.int .i64 ((ts.map Tk.pv).length:Nat))]=_;rw[Aq]
theorem F3(o:Bool)(s:Nat)(ts:List Dg):Be (.len false) [.slice o s (ts.map Dg.pv)]=some [some (.int .i64 (ts.length:Nat))]:=by
 show some [some (PV.int .i64 ((ts.map Dg.pv).length:Nat))]=_;rw[Aq]
theorem Ep(T:Tr):Be (.ldl 0 5 true) [T.pv]=some [some T.pv]:=by
 have hk:=T.jH;rw[Tr.H7]
 have:sub (nd T.kind T.text T.st T.en T.kp) 0 5 true=some (nd T.kind T.text T.st T.en T.kp):=by
  show(if _ then _ else _)=_
  rw[if_pos]
  ·rfl
  ·refine⟨Ag 5,?_⟩
   show(true&&(true&&(true&&(true&&(T.kp.flat&&true)))))=true;rw[hk.2.2.2];rfl
 show(R6 (nd T.kind T.text T.st T.en T.kp) 0 5 true).map _=_;rw[iJ this,AO,VV hk]
theorem MC(ts:List Tr)(U:Tr):Tr.pvs (ts++[U])=Tr.pvs ts++[U.pv]:=by rw[Tr.Fj,Tr.Fj,Ca];rfl
theorem JN{ts:List Tr}(o:Bool)(U:Tr)(h:ts.length+1≤Bn):Be (.app 5) [.slice true 5 (Tr.pvs ts),.slice o 5 [U.pv]]=some [some (.slice true 5 (Tr.pvs (ts++[U]))),some (.slice false 5 (Tr.pvs ts))]:=by
 rw[MC];exact NA (by rw[Tr.Fj,Aq];exact h) rfl (by simp)
theorem Zc{ts:List Tk}(o:Bool)(t:Tk)(h:ts.length+1≤Bn):Be (.app 4) [.slice true 4 (ts.map Tk.pv),.slice o 4 [t.pv]]=some [some (.slice true 4 ((ts++[t]).map Tk.pv)),some (.slice false 4 (ts.map Tk.pv))]:=by
 rw[Ca];exact NA (by rw[Aq];exact h) rfl rfl
theorem KL{ts:List Dg}(o:Bool)(t:Dg)(h:ts.length+1≤Bn):Be (.app 5) [.slice true 5 (ts.map Dg.pv),.slice o 5 [t.pv]]=some [some (.slice true 5 ((ts++[t]).map Dg.pv)),some (.slice false 5 (ts.map Dg.pv))]:=by
 rw[Ca];exact NA (by rw[Aq];exact h) rfl rfl
theorem fe(a b:Nat):(PV.ref a b).Ae=.ref a b:=rfl
theorem o7(a b:Nat):(PV.ref a b).free=true:=rfl
theorem gG(f:FuncId)(x y:List PV):(PV.func f x y).Ae=.func f x y:=rfl
theorem sJ(f:FuncId)(x y:List PV):(PV.func f x y).free=true:=rfl
theorem ku(t:Tk):t.pv.Ae=t.pv:=rfl
theorem uS(t:Tk):t.pv.free=true:=rfl
theorem uT(t:Tk):t.pv.flat=true:=rfl
theorem uR(t:Tk):t.pv.ones=true:=rfl
theorem qM:PV.nils.one=true:=rfl
theorem AwE(T:Tr):T.pv.okc=true:=T.fD
theorem xN(l:List PV):(PV.agg l).okc=true:=rfl
theorem AwF(cs:List PV)(n:Nat):KE (.agg cs) (some n)=((true&&cs.length==n)&&cs.all PV.flat):=rfl
theorem qA(z:Nat)(es:List PV):(BG z es).one=true:=by cases es<;>rfl
theorem xM(z:Nat)(es:List PV):(Bw z es).one=true:=by cases es<;>rfl
attribute [simp] AwF qA xM
attribute [simp] fe o7 ku uS uT uR qM gG sJ AwE xN
theorem Tu{d:Nat}{a b c e:PV}{z:Nat}{es:List PV}:Be (.ldfo d) [.lref d 4,.agg [a,b,c,e,Bw z es]]=some [some (Bw z es),some (.agg [a,b,c,e,BG z es])]:=by
 show(if d=d then _ else _)=_
 rw[if_pos rfl];cases es<;>rfl
theorem Sb{d:Nat}{a b c e o:PV}{z:Nat}{es:List PV}:Be (.stfo d) [.lref d 4,.agg [a,b,c,e,o],Bw z es]=some [some (.agg [a,b,c,e,Bw z es]),some (BG z es)]:=by
 show(if d=d then _ else _)=_
 rw[if_pos rfl];cases es<;>rfl
theorem xU{a b c e:PV}{z:Nat}{es:List PV}(h:a.flat=true∧b.flat=true∧c.flat=true∧e.flat=true∧a.Cc=a∧b.Cc=b∧c.Cc=c∧e.Cc=e:=by exact⟨rfl,rfl,rfl,rfl,rfl,rfl,rfl,rfl⟩):
  Be (.ldl 0 5 true) [.agg [a,b,c,e,Bw z es]]=some [some (.agg [a,b,c,e,BG z es])]:=by
 obtain⟨h1,h2,h3,h4,h5,h6,h7,h8⟩:=h
 have hs:sub (.agg [a,b,c,e,Bw z es]) 0 5 true=some (.agg [a,b,c,e,Bw z es]):=by
  show(if _ then _ else _)=_
  rw[if_pos]
  ·rfl
  ·refine⟨Ag 5,?_⟩
   show(a.flat&&(b.flat&&(c.flat&&(e.flat&&((Bw z es).flat&&true)))))=true;rw[h1,h2,h3,h4,dU];rfl
 show(R6 (.agg [a,b,c,e,Bw z es]) 0 5 true).map _=_;rw[iJ hs];show some [some (PV.agg [a.Cc,b.Cc,c.Cc,e.Cc,(Bw z es).Cc])]=_;rw[h5,h6,h7,h8,bC]
theorem oW{f:FuncId}{xs:List PV}{σ σ':Sto}{r:PV}(h:E f xs σ r σ')(hp:pur f=false:=by rfl)(hs:xs.map PV.Ae=xs∧xs.all PV.free=true∧r.Ae=r:=by first | exact⟨rfl,rfl,rfl⟩ | simp):Bh pur run (.w (.call f)) xs σ [some r] σ':=Ct h hp hs.1 hs.2.1 hs.2.2
abbrev r0:PV:=.ref 0 0
abbrev Z1:PV:=.agg [I 0,.str [],I 0,I 0,.nils]
abbrev Hp(x:Sto)(n m:Nat):Prop:=E 226 [r0] x (.tuple [N n,N m]) x
abbrev Hb(f:FuncId)(w:List UInt8)(x:Sto)(b:Bool)(y:Sto):Prop:=E f [r0,.str w] x (.bool b) y
abbrev Hq(f:FuncId)(w:List UInt8)(x:Sto)(y:Sto):Prop:=E f [r0,.str w] x (.tuple []) y
abbrev Hw(ws:List PV)(x:Sto)(b:Bool):Prop:=E 155 [r0,.slice false 1 ws] x (.bool b) x
abbrev Hi(n:Int)(x:Sto)(b:Bool):Prop:=E 154 [r0,I n] x (.bool b) x
abbrev Hs(f:FuncId)(x:Sto)(w:List UInt8)(y:Sto):Prop:=E f [r0] x (.str w) y
abbrev Ht(f:FuncId)(x:Sto)(U:Tr)(y:Sto):Prop:=E f [r0] x U.pv y
abbrev Hm(k:Int)(w:List UInt8)(j l:Nat)(ks:PV)(x:Sto)(U:Tr):Prop:=E 231 [r0,I k,.str w,N j,N l,ks] x U.pv x
abbrev Hk(x:Sto)(n:Nat):Prop:=Fq (.ld 1 false) [.ref 0 2] x=some [some (N n)]
abbrev Hc(x:Sto)(n:Nat):Prop:=E 32 [r0] x (N n) x
abbrev Hx(n:Int)(x:Sto)(U:Tr)(y:Sto):Prop:=E 41 [r0,I n] x U.pv y
abbrev Hn(j:Nat)(k:Int)(w:List UInt8)(ks:PV)(x:Sto)(U:Tr):Prop:=E 38 [r0,N j,I k,.str w,ks] x U.pv x
theorem wn{j:Nat}{k:Int}{w:List UInt8}{xs:List PV}{q:Sto}{U:Tr}(h:Hn j k w (.slice false 5 xs) q U):Bh pur run (.w (.call 38)) [r0,N j,I k,.str w,.slice true 5 xs] q [some U.pv] q:=Ct h (by rfl) (by rfl) (by rfl) (by simp)
theorem bz0(q:Sto):Bh pur run (.p (.bsl 5)) [] q [some (.slice true 5 [])] q:=FV Um
theorem bz1(q:Sto)(U:Tr):Bh pur run (.p (.bsl 5)) [U.pv] q [some (.slice true 5 [U.pv])] q:=FV Um
theorem bz2(q:Sto)(U V:Tr):Bh pur run (.p (.bsl 5)) [U.pv,V.pv] q [some (.slice true 5 [U.pv,V.pv])] q:=FV Um
theorem bz3(q:Sto)(U V W:Tr):Bh pur run (.p (.bsl 5)) [U.pv,V.pv,W.pv] q [some (.slice true 5 [U.pv,V.pv,W.pv])] q:=FV Um
theorem wm{j l:Nat}{k:Int}{w:List UInt8}{xs:List PV}{q:Sto}{U:Tr}(h:Hm k w j l (.slice false 5 xs) q U):Bh pur run (.w (.call 231)) [r0,I k,.str w,N j,N l,.slice true 5 xs] q [some U.pv] q:=Ct h (by rfl) (by rfl) (by rfl) (by simp)
theorem zl(q:Sto)(U:Tr):Bh pur run (.p (.stl 0 5)) [Z1,U.pv] q [some U.pv] q:=PS q (WI (I 0) (.str []) (I 0) (I 0) .nils U)
theorem rz(n:Nat)(U:Tr):(Gm [(n,some U.pv)] [(n,some 5)]).bind DL=some U.pv:=by simp[Gs,DL]
end Go.Abs.Z

namespace Go.Abs.Z
abbrev Wd:=Nat×List UInt8
inductive AT where
 |mk (kd:Nat) (tx:List UInt8) (f k:Nat) (b:Bool) (ks:List AT)
 deriving Inhabited
structure AD where
 c:Nat
 i:Nat
 t:List UInt8
inductive El where
 |fd | pa | ex
inductive NT where
 |ex (L:Nat)
 |lp (L f:Nat) (x:AT)
 |tl (e:El) (acc:List AT)
 |bk | sts (acc:List AT) | st | br | sk (f:Nat) | sp | pg (acc:List AT)
abbrev Rs:=AT×List AT
inductive Pg where
 |ret (v:Rs)
 |look (f:Wd→Wd→Nat→Pg)
 |read (p:Pg)
 |report (c:Nat) (t:List UInt8) (p:Pg)
 |call (x:NT) (f:Rs→Pg)
abbrev K6:List UInt8:=[114,101,99,111,114,100]
abbrev Iz:List UInt8:=[112,114,111,99]
abbrev Og:List UInt8:=[118,97,114]
abbrev wIf:List UInt8:=[105,102]
abbrev VC:List UInt8:=[101,108,115,101]
abbrev Lt:List UInt8:=[119,104,105,108,101]
abbrev RU:List UInt8:=[102,111,114]
abbrev wTo:List UInt8:=[116,111]
abbrev GH:List UInt8:=[114,101,116,117,114,110]
abbrev Jl:List UInt8:=[97,115,115,101,114,116]
abbrev Az5:List UInt8:=[97,110,100]
abbrev wOr:List UInt8:=[111,114]
abbrev Oh:List UInt8:=[110,111,116]
abbrev Iy:List UInt8:=[116,114,117,101]
abbrev GQ:List UInt8:=[102,97,108,115,101]
abbrev NF:List UInt8:=[105,110,116]
abbrev JU:List UInt8:=[98,111,111,108]
abbrev Oi:List UInt8:=[108,101,110]
abbrev AZD:List UInt8:=[110,97,109,101]
abbrev iE:List UInt8:=[110,117,109,98,101,114]
abbrev yX:List UInt8:=[116,121,112,101]
abbrev UK:List UInt8:=[101,110,100]
def dgt(x:List UInt8):List UInt8:=let y:=x.dropWhile (·==48);if y=[]∧x≠[] then[48] else y
namespace Pg
def ifW(ws:List (List UInt8))(p q:Pg):Pg:=.look fun a _ _=>if ws.contains a.2 then p else q
def ifK(k:Nat)(p q:Pg):Pg:=.look fun a _ _=>if a.1=k then p else q
def mrk(g:Nat→Pg):Pg:=.look fun _ _ k=>g k
def xp(x:List UInt8)(p:Pg):Pg:=ifW [x] (.read p) (.report 4 x p)
def rd(g:List UInt8→Pg):Pg:=.look fun a _ _=>.read (g a.2)
def nm(g:List UInt8→Pg):Pg:=ifK 0 (rd g) (.report 4 AZD (g []))
def num(g:List UInt8→Pg):Pg:=ifK 2 (rd fun x=>g (dgt x)) (.report 4 iE (g []))
def bd(kd:Nat)(tx:List UInt8)(f:Nat)(b:Bool)(ks:List AT)(g:AT→Pg):Pg:=.look fun _ _ k=>g (.mk kd tx f k b ks)
def nod(kd:Nat)(tx:List UInt8)(f:Nat)(ks:List AT):Pg:=bd kd tx f true ks fun x=>.ret (x,[])
def cl(x:NT)(g:AT→Pg):Pg:=.call x fun r=>g r.1
def lst(x:NT):Pg:=.call x .ret
def nop(g:AT→Pg):Pg:=mrk fun f=>bd 0 [] f false [] g
def miss(g:AT→Pg):Pg:=mrk fun f=>bd 1 [] f false [] g
end Pg
open Pg
def written(g:AT→Pg):Pg:=ifW [[58]] (.read (mrk fun f=>
  ifW [NF] (.read (ifW [[91]] (.read (num fun n=>xp [93] (bd 10 n f false [] g))) (bd 9 NF f false [] g)))
   (ifW [JU] (.read (bd 9 JU f false [] g)) (ifK 0 (rd fun x=>bd 9 x f false [] g) (.report 4 yX (miss g))))))
 (nop g)
def Qz(g:AT→Pg):Pg:=mrk fun f=>nm fun x=>xp [58] (ifW [NF,JU] (mrk fun f2=>rd fun t=>bd 9 t f2 false [] fun y=>bd 4 x f false [y] g)
 (.report 4 yX (miss fun y=>bd 4 x f false [y] g)))
def Qo(g:AT→Pg):Pg:=mrk fun f=>ifW [Og] (.read (nm fun x=>written fun t=>bd 8 x f false [t] g)) (nm fun x=>written fun t=>bd 7 x f false [t] g)
def Wn:El→(AT→Pg)→Pg
 |.fd=>Qz
 |.pa=>Qo
 |.ex=>cl (.ex 1)
def Pp(e:El)(g:List AT→Pg):Pg:=Wn e fun x=>.call (.tl e [x]) fun r=>g r.2
def O5(g:AT→Pg):Pg:=mrk fun f=>.read (nm fun x=>xp [123] (Pp .fd fun l=>xp [125] (bd 3 x f false l g)))
def Pb(g:AT→Pg):Pg:=mrk fun f=>xp [40] (ifW [[41]] (xp [41] (bd 6 [] f true [] g)) (Pp .pa fun l=>xp [41] (bd 6 [] f true l g)))
def aZ(g:AT→Pg):Pg:=mrk fun f=>.read (nm fun x=>Pb fun a=>written fun t=>cl .bk fun b=>bd 5 x f false [a,t,b] g)
def Uy(g:List AT→Pg):Pg:=.read (ifW [[41]] (xp [41] (g [])) (Pp .ex fun l=>xp [41] (g l)))
def Ja(g:AT→Pg):Pg:=mrk fun f=>nm fun x=>bd 20 x f false [] g
def Ow(g:AT→Pg):Pg:=mrk fun f=>Ja fun v=>ifW [[91]] (.read (cl (.ex 1) fun y=>xp [93] (bd 21 [] f false [v,y] g)))
 (ifW [[46]] (.read (nm fun x=>bd 22 x f false [v] g)) (g v))
def opL:Nat→List (List UInt8)
 |1=>[wOr]
 |2=>[Az5]
 |4=>[[61,61],[33,61],[60],[60,61],[62],[62,61]]
 |5=>[[43],[45]]
 |6=>[[42],[47],[37]]
 |_=>[]
def q9:Pg:=mrk fun f=>cl (.ex 5) fun x=>ifW (opL 4) (rd fun o=>cl (.ex 5) fun y=>nod 29 o f [x,y]) (.ret (x,[]))
def bi:Pg:=mrk fun f=>
 ifK 2 (rd fun x=>nod 24 (dgt x) f [])
 (ifW [Iy,GQ] (rd fun x=>nod 25 x f [])
 (.look fun a b _=>if a.1=0∧b.2=[40] then rd fun x=>Uy fun l=>nod 27 x f l
  else if a.1=0 then Ow fun x=>.ret (x,[])
  else ifW [[91]] (.read (Pp .ex fun l=>xp [93] (nod 26 [] f l)))
   (ifW [Oi] (.read (xp [40] (Ja fun v=>xp [41] (nod 23 [] f [v]))))
   (ifW [[40]] (.read (cl (.ex 1) fun x=>xp [41] (.ret (x,[]))))
   (.report 5 [] (miss fun x=>.ret (x,[])))))))
def svP:Pg:=mrk fun f=>.read (nm fun x=>written fun t=>xp [61] (cl (.ex 1) fun v=>xp [59] (nod 12 x f [t,v])))
def mZ:Pg:=mrk fun f=>.read (cl (.ex 1) fun c=>cl .bk fun b=>nod 15 [] f [c,b])
def AwV:Pg:=mrk fun f=>.read (nm fun x=>xp [61] (cl (.ex 1) fun a=>xp wTo (cl (.ex 1) fun c=>cl .bk fun b=>nod 16 x f [a,c,b])))
def gY:List (List UInt8):=[Iy,GQ,Oh,Oi,[45],[40],[91]]
def Za(a:Wd):Bool:=a.1==0||a.1==2||gY.contains a.2
def Xb:Pg:=mrk fun f=>.read (.look fun a _ _=>if Za a then cl (.ex 1) fun x=>xp [59] (nod 17 [] f [x]) else nop fun x=>xp [59] (nod 17 [] f [x]))
def Zb:Pg:=mrk fun f=>.read (cl (.ex 1) fun x=>xp [59] (nod 18 [] f [x]))
def WO:Pg:=mrk fun f=>.look fun _ b _=>if b.2=[40] then rd fun x=>Uy fun l=>xp [59] (nod 19 x f l)
 else Ow fun x=>xp [61] (cl (.ex 1) fun y=>xp [59] (nod 13 [] f [x,y]))
def JF:List (List UInt8):=[[125],Iz,K6]
def Mm:List (List UInt8):=[[125],Iz,K6,Og,wIf,Lt,RU,GH,Jl]
def prog:NT→Pg
 |.ex 3=>mrk fun f=>ifW [Oh] (.read (cl (.ex 3) fun x=>nod 28 Oh f [x])) q9
 |.ex 7=>mrk fun f=>ifW [[45]] (.read (cl (.ex 7) fun x=>nod 28 [45] f [x])) bi
 |.ex L=>mrk fun f=>cl (.ex (L+1)) fun x=>lst (.lp L f x)
 |.lp L f x=>ifW (opL L) (rd fun o=>cl (.ex (L+1)) fun y=>bd 29 o f false [x,y] fun z=>lst (.lp L f z)) (.ret (x,[]))
 |.tl e acc=>ifW [[44]] (.read (Wn e fun x=>lst (.tl e (acc++[x])))) (.ret (default,acc))
 |.bk=>mrk fun f=>ifW [[123]] (.read (.call (.sts []) fun r=>xp [125] (nod 11 [] f r.2))) (.report 4 [123] (bd 11 [] f false [] fun x=>.ret (x,[])))
 |.sts acc=>ifW JF (.ret (default,acc)) (ifK 5 (.ret (default,acc)) (cl .st fun x=>lst (.sts (acc++[x]))))
 |.st=>ifW [Og] svP (ifW [wIf] (lst .br) (ifW [Lt] mZ (ifW [RU] AwV (ifW [GH] Xb (ifW [Jl] Zb (ifK 0 WO
   (.report 6 [] (mrk fun f=>.call (.sk f) fun _=>nod 1 [] f []))))))))
 |.br=>mrk fun f=>.read (cl (.ex 1) fun c=>cl .bk fun b=>ifW [VC] (.read (ifW [wIf] (cl .br fun o=>nod 14 [] f [c,b,o]) (cl .bk fun o=>nod 14 [] f [c,b,o])))
   (nop fun o=>nod 14 [] f [c,b,o]))
 |.sk f=>ifK 5 (.ret default) (mrk fun k=>if k=f then ifW JF (.ret default) (rd fun x=>if x=[59] then .ret default else lst (.sk f))
   else ifW Mm (.ret default) (rd fun x=>if x=[59] then .ret default else lst (.sk f)))
 |.sp=>ifK 5 (.ret default) (ifW [Iz,K6] (.ret default) (.read (lst .sp)))
 |.pg acc=>ifK 5 (.ret (default,acc)) (ifW [K6] (O5 fun x=>lst (.pg (acc++[x]))) (ifW [Iz] (aZ fun x=>lst (.pg (acc++[x])))
   (.report 7 [] (mrk fun f=>.read (.call .sp fun _=>bd 1 [] f false [] fun x=>lst (.pg (acc++[x])))))))
def rp(D:List AD)(c k:Nat)(t:List UInt8):List AD:=if D.getLast?.map AD.i=some k then D else D++[⟨c,k,t⟩]
abbrev K4:=Option (Rs×Nat×List AD)
section
variable(w:Nat→Wd)
def LB(c:NT→Nat→List AD→K4):Pg→Nat→List AD→K4
 |.ret v,k,D=>some (v,k,D)
 |.look f,k,D=>LB c (f (w k) (w (k+1)) k) k D
 |.read p,k,D=>if(w k).1=5 then none else LB c p (k+1) D
 |.report e t p,k,D=>LB c p k (rp D e k t)
 |.call x f,k,D=>(c x k D).bind fun r=>LB c (f r.1) r.2.1 r.2.2
def runN:Nat→NT→Nat→List AD→K4
 |0,_,_,_=>none
 |n+1,x,k,D=>LB w (runN n) (prog x) k D
end
end Go.Abs.Z
