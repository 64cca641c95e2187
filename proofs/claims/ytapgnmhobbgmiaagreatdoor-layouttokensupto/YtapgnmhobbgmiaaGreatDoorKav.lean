/- A part of the proof: G1 G0 G2 P9. -/
import Derived.Test.YtapgnmhobbgmiaaGreatDoorKag
import Derived.Test.YtapgnmhobbgmiaaGreatDoorKap
import Derived.KernelRfl
import Derived.Test.YtapgnmhobbgmiaaGreatDoorKau

set_option linter.unusedVariables false
set_option linter.unusedSimpArgs false
namespace Go.Abs
open Go.RowKit
def Sub(a b:FF):Prop:=∀t v,EK a t=some v→EK b t=some v
theorem Sub.refl(a:FF):Sub a a:=fun _ _ h=>h
theorem Sub.trans{a b c:FF}(h:Sub a b)(k:Sub b c):Sub a c:=fun t v x=>k t v (h t v x)
noncomputable def VP(ls:List Nat)(ff:FF):FF:=List.rec (motive:=fun _=>FF) [] (fun t _ ih=>(t,EK ff t)::ih) ls
theorem Ni:∀(ls:List Nat) (ff:FF),Sub (VP ls ff) ff
 |[],_,_,_,h=>by cases h
 |s::ls,ff,t,v,h=>by
  have h':cond (Nat.beq s t) (EK ff s) (EK (VP ls ff) t)=some v:=h;cases hb:Nat.beq s t with
  |true=>rw[hb] at h';rw[←BP hb];exact h'
  |false=>rw[hb] at h';exact Ni ls ff t v h'
section
variable(pur:FuncId→Bool)(R:Nat→Caller)
def Bh(k:AK)(vs:List PV)(σ:Sto)(rs:List (Option PV))(σ':Sto):Prop:=∃N,∀n,N≤n→sem pur (R n) k vs σ=some (rs,σ')
def M7(c:Db)(ff:FF)(σ:Sto)(e:Cu)(ff':FF)(σ':Sto):Prop:=
 ∃N,∀n,N≤n→∀ff0,Sub ff ff0→∃ff1,Fv pur (R n) n c ff0 σ=some (e,ff1,σ')∧Sub ff' ff1
def Kr(keep:List Bool)(c:Db)(ff:FF)(σ:Sto)(e:Cu)(ff':FF)(σ':Sto):Prop:=
 ∃N,∀n,N≤n→∀m,N≤m→∀ff0,Sub ff ff0→∃ff1,V4 keep (Fv pur (R n) n c) m ff0 σ=some (e,ff1,σ')∧Sub ff' ff1
def Ev(f:FuncId)(args:List PV)(σ:Sto)(r:PV)(σ':Sto):Prop:=∃N,∀n,N≤n→R n f args σ=some (r,σ')
inductive Ans where
 |res (rs:List (Option PV)) (σ:Option Sto)
 |grd (d:Bool)
 |grdr (rs:List (Option PV)) (σ:Option Sto)
 |br (b:Bool)
 |loop (ls:List Nat) (e:Cu) (ff:FF) (σ:Sto)
abbrev Tape:=List (Nat×Ans)
structure TO where
 e:Cu
 ff:FF
 σ:Sto
 tp:Tape
 q:Prop
abbrev TX:=Option TO
noncomputable section
def LG:Caller:=fun _ _ _=>none
def gJ(d:Option Nat)(ex clr:List Nat)(ff:FF)(rs:List (Option PV))(σ:Sto):RFS:=
 cond (Nat.beq rs.length (d.toList.length+ex.length)) (some (SQ (d.toList++ex++clr) (rs++clr.map fun _=>none) ff,σ)) (cond (d.isNone&&ex.isEmpty&&clr.isEmpty) (some (ff,σ)) none)
def nH(tp:Tape)(q:Prop)(r:RFS):TX:=Option.rec (motive:=fun _=>TX) none (fun r=>some ⟨.normal,r.1,r.2,tp,q⟩) r
def gS(σ:Sto)(u:Option Sto):Sto:=Option.rec (motive:=fun _=>Sto) σ (fun x=>x) u
def WQ(k:AK)(vs:List PV)(σ:Sto)(rs:List (Option PV))(u:Option Sto):Prop:=Option.rec (motive:=fun _=>Prop) (∀(R:Nat→Caller) (σ:Sto),Bh pur R k vs σ rs σ) (fun σ1=>Bh pur R k vs σ rs σ1) u
def JX(o:AOp)(ff:FF)(σ:Sto)(tp:Tape)(q:Prop)(a:Ans):TX:=
 Ans.rec (motive:=fun _=>TX)
  (fun rs u=>Option.rec (motive:=fun _=>TX) (Option.rec (motive:=fun _=>TX) none (fun vs=>nH tp (WQ pur R o.k vs σ rs u∧q) (gJ o.dst o.ex o.clr ff rs (gS σ u))) (Eu ff o.args)) (fun _=>none) o.guard)
  (fun d=>Option.rec (motive:=fun _=>TX) none (fun g=>nH tp (Hd (EK ff g.1) g.2=some d∧q) (cond d (J6 pur LG o ff σ) (cond (o.ex.isEmpty&&o.clr.isEmpty) (some (SQ o.wr [some JW] ff,σ)) none))) o.guard)
  (fun rs u=>Option.rec (motive:=fun _=>TX) none (fun g=>Option.rec (motive:=fun _=>TX) none (fun vs=>nH tp (WQ pur R o.k vs σ rs u∧Hd (EK ff g.1) g.2=some true∧q) (gJ o.dst o.ex o.clr ff rs (gS σ u))) (Eu ff o.args)) o.guard)
  (fun _=>none) (fun _ _ _ _=>none) a
def iG{α:Type}(tp:Tape)(plain:Tape→α)(spec:Tape→Ans→α):α:=
 List.rec (motive:=fun _=>α) (plain []) (fun x tp _=>Nat.rec (motive:=fun _=>α) (spec tp x.2) (fun n _=>plain ((n,x.2)::tp)) x.1) tp
def tOp(o:AOp)(ff:FF)(σ:Sto)(tp:Tape)(q:Prop):TX:=
 iG tp (fun tp=>nH tp q (II pur LG o ff σ)) (fun tp a=>JX pur R o ff σ tp q a)
def Uo(r:TX)(k:FF→Sto→Tape→Prop→TX):TX:=
 Option.rec (motive:=fun _=>TX) none (fun r=>cond (Gc r.e) (k r.ff r.σ r.tp r.q) (some r)) r
def nO(os:List AOp):FF→Sto→Tape→Prop→TX:=
 List.rec (motive:=fun _=>FF→Sto→Tape→Prop→TX) (fun ff σ tp q=>some ⟨.normal,ff,σ,tp,q⟩) (fun o _ ih ff σ tp q=>Uo (tOp pur R o ff σ tp q) ih) os
def Zv(c:CQ)(x y:FF→Sto→Tape→Prop→TX)(ff:FF)(σ:Sto)(tp:Tape)(q:Prop):TX:=
 iG tp (fun tp=>match Eu ff [c] with
  |some [.bool b]=>cond b (x ff σ tp q) (y ff σ tp q)
  |_=>none)
  (fun tp a=>Ans.rec (motive:=fun _=>TX) (fun _ _=>none) (fun _=>none) (fun _ _=>none) (fun b=>cond b (x ff σ tp (Eu ff [c]=some [.bool b]∧q)) (y ff σ tp (Eu ff [c]=some [.bool b]∧q))) (fun _ _ _ _=>none) a)
def eD(id:Nat)(r:TX):TX:=
 Option.rec (motive:=fun _=>TX) none (fun r=>Cu.rec (motive:=fun _=>TX) (some r) (fun i=>cond (Nat.beq i id) (some ⟨.normal,r.ff,r.σ,r.tp,r.q⟩) (some r)) (some r) r.e) r
def nP(keep:List Bool)(c:Db)(ff:FF)(σ:Sto)(tp:Tape)(q:Prop):TX:=
 iG tp (fun _=>none) (fun tp a=>Ans.rec (motive:=fun _=>TX) (fun _ _=>none) (fun _=>none) (fun _ _=>none) (fun _=>none)
  (fun ls e ff1 σ1=>some ⟨e,ff1,σ1,tp,Kr pur R keep c (VP ls (EC ff keep 0)) σ e ff1 σ1∧q⟩) a)
def HZ(c:Db):FF→Sto→Tape→Prop→TX:=
 Db.rec (motive:=fun _=>FF→Sto→Tape→Prop→TX)
  (fun ff σ tp q=>some ⟨.normal,ff,σ,tp,q⟩)
  (fun ops=>nO pur R ops)
  (fun _ _ iha ihb ff σ tp q=>Uo (iha ff σ tp q) ihb)
  (fun c _ _ iht ihe=>Zv c iht ihe)
  (fun id _ ih ff σ tp q=>eD id (ih ff σ tp q))
  (fun keep c _=>nP pur R keep c)
  (fun id ff σ tp q=>some ⟨.exit id,ff,σ,tp,q⟩)
  (fun ff σ tp q=>some ⟨.ret,ff,σ,tp,q⟩) c
end
end
section
variable{pur:FuncId→Bool}{R:Nat→Caller}{ff ff' ff0:FF}{σ σ':Sto}{tp tp':Tape}{q q':Prop}{e:Cu}
theorem Jk(h:Sub ff ff0):∀(zs:List CQ) (vs:List PV),Eu ff zs=some vs→Eu ff0 zs=some vs
 |[],vs,he=>he
 |.slot t::zs,vs,he=>by
  have he':(Option.rec (motive:=fun _=>Option (List PV)) none (fun v=>Option.rec (motive:=fun _=>Option (List PV)) none (fun vs=>some (v::vs)) (Eu ff zs)) (EK ff t))=some vs:=he
  show(Option.rec (motive:=fun _=>Option (List PV)) none (fun v=>Option.rec (motive:=fun _=>Option (List PV)) none (fun vs=>some (v::vs)) (Eu ff0 zs)) (EK ff0 t))=some vs
  cases hg:EK ff t with
  |none=>rw[hg] at he';cases he'
  |some v=>
   rw[hg] at he';cases hr:Eu ff zs with
   |none=>rw[hr] at he';cases he'
   |some ws=>
    rw[hr] at he';rw[h t v hg,Jk h zs ws hr];exact he'
 |.val v::zs,vs,he=>by
  have he':(Option.rec (motive:=fun _=>Option (List PV)) none (fun vs=>some (v::vs)) (Eu ff zs))=some vs:=he
  show(Option.rec (motive:=fun _=>Option (List PV)) none (fun vs=>some (v::vs)) (Eu ff0 zs))=some vs
  cases hr:Eu ff zs with
  |none=>rw[hr] at he';cases he'
  |some ws=>
   rw[hr] at he';rw[Jk h zs ws hr];exact he'
theorem SL:∀(ts:List Nat) (vs:List (Option PV)) {ff ff0:FF},Sub ff ff0→Sub (SQ ts vs ff) (SQ ts vs ff0)
 |[],vs,ff,ff0,h=>by cases vs<;>exact h
 |t::ts,[],ff,ff0,h=>h
 |t::ts,v::vs,ff,ff0,h=>by
  refine SL ts vs (ff:=(t,v)::ff) (ff0:=(t,v)::ff0) fun s x hx=>?_
  rw[Lg] at hx ⊢;cases hb:Nat.beq t s with
  |true=>simp only[hb,cond_true] at hx ⊢;exact hx
  |false=>simp only[hb,cond_false] at hx ⊢;exact h s x hx
theorem TV{d:Option Nat}{ex clr:List Nat}{rs:List (Option PV)}(h:Sub ff ff0)(he:gJ d ex clr ff rs σ=some (ff',σ')):∃ff1,gJ d ex clr ff0 rs σ=some (ff1,σ')∧Sub ff' ff1:=by
 unfold gJ at he ⊢;cases hb:Nat.beq rs.length (d.toList.length+ex.length) with
 |true=>rw[hb] at he;cases he;exact⟨_,rfl,SL _ _ h⟩
 |false=>
  rw[hb] at he;cases hc:(d.isNone&&ex.isEmpty&&clr.isEmpty) with
  |true=>rw[hc] at he;cases he;exact⟨_,rfl,h⟩
  |false=>rw[hc] at he;cases he
theorem Sr{call:Caller}{k:AK}{vs:List PV}{x:List (Option PV)×Sto}(h:sem pur LG k vs σ=some x):sem pur call k vs σ=some x:=by
 cases k with
 |p k=>exact h
 |r k=>exact h
 |c f=>
  simp only[sem,LG] at h
  split at h<;>simp at h
 |w k=>
  simp only[sem] at h ⊢;unfold EW at h ⊢
  split at h<;>first
   |exact h
   |(simp only[LG] at h;repeat' split at h;all_goals simp at h)
theorem Nc{call:Caller}{o:AOp}{vs:List PV}{rs:List (Option PV)}{σ1:Sto}(hv:Eu ff o.args=some vs)(hs:sem pur call o.k vs σ=some (rs,σ1)):J6 pur call o ff σ=gJ o.dst o.ex o.clr ff rs σ1:=by
 unfold J6;rw[hv];dsimp only;rw[hs];rfl
theorem ZO{call:Caller}{o:AOp}(h:J6 pur call o ff σ=some (ff',σ')):∃vs rs σ1,Eu ff o.args=some vs∧sem pur call o.k vs σ=some (rs,σ1)∧gJ o.dst o.ex o.clr ff rs σ1=some (ff',σ'):=by
 unfold J6 at h;cases hv:Eu ff o.args with
 |none=>rw[hv] at h;cases h
 |some vs=>
  rw[hv] at h;dsimp only at h;cases hs:sem pur call o.k vs σ with
  |none=>rw[hs] at h;cases h
  |some r=>
   rw[hs] at h;exact⟨vs,r.1,r.2,rfl,hs,h⟩
theorem Sv{call:Caller}{o:AOp}(h:Sub ff ff0)(he:J6 pur LG o ff σ=some (ff',σ')):∃ff1,J6 pur call o ff0 σ=some (ff1,σ')∧Sub ff' ff1:=by
 obtain⟨vs,rs,σ1,h1,h2,h3⟩:=ZO he;rw[Nc (Jk h _ _ h1) (Sr h2)];exact TV h h3
theorem Mi{g:Nat}{b d:Bool}(h:Sub ff ff0)(he:Hd (EK ff g) b=some d):Hd (EK ff0 g) b=some d:=by
 cases hg:EK ff g with
 |none=>rw[hg] at he;simp[Hd] at he
 |some v=>rw[h g v hg,←hg];exact he
theorem GZ{call:Caller}{o:AOp}{g:Nat×Bool}{d:Bool}(hg:o.guard=some g)(hw:Hd (EK ff g.1) g.2=some d):
  II pur call o ff σ=cond d (J6 pur call o ff σ) (cond (o.ex.isEmpty&&o.clr.isEmpty) (some (SQ o.wr [some JW] ff,σ)) none):=by
 unfold II;rw[hg];dsimp only;rw[hw]
theorem VE{o:AOp}(h:Sub ff ff0)(he:cond (o.ex.isEmpty&&o.clr.isEmpty) (some (SQ o.wr [some JW] ff,σ)) none=some (ff',σ')):
  ∃ff1,cond (o.ex.isEmpty&&o.clr.isEmpty) (some (SQ o.wr [some JW] ff0,σ)) none=some (ff1,σ')∧Sub ff' ff1:=by
 cases hc:(o.ex.isEmpty&&o.clr.isEmpty) with
 |true=>rw[hc] at he;cases he;exact⟨_,rfl,SL _ _ h⟩
 |false=>rw[hc] at he;cases he
theorem lV{call:Caller}{o:AOp}(h:Sub ff ff0)(he:II pur LG o ff σ=some (ff',σ')):∃ff1,II pur call o ff0 σ=some (ff1,σ')∧Sub ff' ff1:=by
 cases hg:o.guard with
 |none=>
  unfold II at he ⊢;rw[hg] at he ⊢;exact Sv h he
 |some g=>
  cases hw:Hd (EK ff g.1) g.2 with
  |none=>
   unfold II at he;rw[hg] at he;dsimp only at he;rw[hw] at he;cases he
  |some d=>
   rw[GZ hg hw] at he;rw[GZ hg (Mi h hw)];cases d with
   |true=>exact Sv h he
   |false=>exact VE h he
theorem OJ{call:Caller}{o:AOp}(hg:o.guard=none):II pur call o ff σ=J6 pur call o ff σ:=by
 unfold II;rw[hg]
def OpT(pur:FuncId→Bool)(R:Nat→Caller)(o:AOp)(ff:FF)(σ:Sto)(ff':FF)(σ':Sto):Prop:=
 ∃N,∀n,N≤n→∀ff0,Sub ff ff0→∃ff1,II pur (R n) o ff0 σ=some (ff1,σ')∧Sub ff' ff1
theorem Jo{r:RFS}{x:TO}(h:nH tp q r=some x):∃ff' σ',r=some (ff',σ')∧x=⟨.normal,ff',σ',tp,q⟩:=by
 cases r with
 |none=>cases h
 |some r=>cases h;exact⟨r.1,r.2,rfl,rfl⟩
theorem opW{k:AK}{vs:List PV}{rs:List (Option PV)}{u:Option Sto}(h:WQ pur R k vs σ rs u):Bh pur R k vs σ rs (gS σ u):=by
 cases u with
 |none=>exact h R σ
 |some x=>exact h
theorem Zu{o:AOp}{a:Ans}{x:TO}(h:JX pur R o ff σ tp q a=some x):x.e=.normal∧(x.q→q)∧(x.q→OpT pur R o ff σ x.ff x.σ):=by
 cases a with
 |br b=>cases h
 |loop ls e f s=>cases h
 |res rs u=>
  cases hg:o.guard with
  |some g=>simp only[JX,hg] at h;cases h
  |none=>
   simp only[JX,hg] at h;cases hv:Eu ff o.args with
   |none=>rw[hv] at h;cases h
   |some vs=>
    rw[hv] at h;obtain⟨ff',σ',h1,rfl⟩:=Jo h;refine⟨rfl,fun hq=>hq.2,fun hq=>?_⟩
    obtain⟨N,hN⟩:=opW hq.1;refine⟨N,fun n hn ff0 hs=>?_⟩
    rw[OJ hg,Nc (Jk hs _ _ hv) (hN n hn)];exact TV hs h1
 |grd d=>
  cases hg:o.guard with
  |none=>simp only[JX,hg] at h;cases h
  |some g=>
   simp only[JX,hg] at h;obtain⟨ff',σ',h1,rfl⟩:=Jo h;refine⟨rfl,fun hq=>hq.2,fun hq=>⟨0,fun n _ ff0 hs=>?_⟩⟩
   rw[GZ hg (Mi hs hq.1)];cases d with
   |true=>exact Sv hs h1
   |false=>exact VE hs h1
 |grdr rs u=>
  cases hg:o.guard with
  |none=>simp only[JX,hg] at h;cases h
  |some g=>
   simp only[JX,hg] at h;cases hv:Eu ff o.args with
   |none=>rw[hv] at h;cases h
   |some vs=>
    rw[hv] at h;obtain⟨ff',σ',h1,rfl⟩:=Jo h;refine⟨rfl,fun hq=>hq.2.2,fun hq=>?_⟩
    obtain⟨N,hN⟩:=opW hq.1;refine⟨N,fun n hn ff0 hs=>?_⟩
    rw[GZ hg (Mi hs hq.2.1),cond_true,Nc (Jk hs _ _ hv) (hN n hn)];exact TV hs h1
theorem K8{α:Type}{tp:Tape}{plain:Tape→α}{spec:Tape→Ans→α}(P:α→Prop)(h1:∀t,P (plain t))(h2:∀t a,P (spec t a)):P (iG tp plain spec):=by
 cases tp with
 |nil=>exact h1 _
 |cons x tp=>
  obtain⟨n,a⟩:=x;cases n with
  |zero=>exact h2 _ _
  |succ n=>exact h1 _
theorem VH{o:AOp}:∀{x:TO},tOp pur R o ff σ tp q=some x→x.e=.normal∧(x.q→q)∧(x.q→OpT pur R o ff σ x.ff x.σ):=by
 unfold tOp;refine K8 (fun r=>∀{x:TO},r=some x→x.e=.normal∧(x.q→q)∧(x.q→OpT pur R o ff σ x.ff x.σ)) (fun t {x} h=>?_) (fun t a {x} h=>Zu h)
 obtain⟨ff',σ',h1,rfl⟩:=Jo h;exact⟨rfl,id,fun _=>⟨0,fun n _ ff0 hs=>lV hs h1⟩⟩
theorem Nw{r:TX}{k:FF→Sto→Tape→Prop→TX}{x:TO}(h:Uo r k=some x):∃y,r=some y∧((y.e=.normal∧k y.ff y.σ y.tp y.q=some x)∨(y.e≠.normal∧y=x)):=by
 cases r with
 |none=>cases h
 |some y=>
  refine⟨y,rfl,?_⟩
  have h':cond (Gc y.e) (k y.ff y.σ y.tp y.q) (some y)=some x:=h;obtain⟨e,f,s,t,q⟩:=y;cases e with
  |normal=>exact .inl ⟨rfl,h'⟩
  |exit i=>exact .inr ⟨by simp,Option.some.inj h'⟩
  |ret=>exact .inr ⟨by simp,Option.some.inj h'⟩
theorem VS(call:Caller)(o:AOp)(os:List AOp):fJ pur call (o::os) ff σ=Option.rec (motive:=fun _=>RX) none (fun r=>fJ pur call os r.1 r.2) (II pur call o ff σ):=rfl
theorem Om:∀(os:List AOp) {ff:FF} {σ:Sto} {tp:Tape} {q:Prop} {x:TO},nO pur R os ff σ tp q=some x→(x.q→q)∧(x.q→M7 pur R (.region os) ff σ x.e x.ff x.σ)
 |[],ff,σ,tp,q,x,h=>by cases h;exact⟨id,fun _=>⟨0,fun n _ ff0 hs=>⟨ff0,rfl,hs⟩⟩⟩
 |o::os,ff,σ,tp,q,x,h=>by
  have h':Uo (tOp pur R o ff σ tp q) (nO pur R os)=some x:=h;obtain⟨y,hy,hc⟩:=Nw h';obtain⟨e1,hq1,ho⟩:=VH hy;rcases hc with⟨_,hk⟩ | ⟨hne,_⟩
  ·obtain⟨hq2,hr⟩:=Om os hk;refine⟨fun hx=>hq1 (hq2 hx),fun hx=>?_⟩
   obtain⟨N1,H1⟩:=ho (hq2 hx);obtain⟨N2,H2⟩:=hr hx;refine⟨max N1 N2,fun n hn ff0 hs=>?_⟩
   obtain⟨ff1,a1,a2⟩:=H1 n (by omega) ff0 hs
   obtain⟨ff2,b1,b2⟩:=H2 n (by omega) ff1 a2
   refine⟨ff2,?_,b2⟩
   show fJ pur (R n) (o::os) ff0 σ=_;rw[VS,a1];exact b1
  ·exact absurd e1 hne
theorem Gj:∀(c:Db) {ff:FF} {σ:Sto} {tp:Tape} {q:Prop} {x:TO},HZ pur R c ff σ tp q=some x→(x.q→q)∧(x.q→M7 pur R c ff σ x.e x.ff x.σ):=by
 intro c
 induction c with
 |skip=>intro ff σ tp q x h;cases h;exact⟨id,fun _=>⟨0,fun n _ ff0 hs=>⟨ff0,rfl,hs⟩⟩⟩
 |region ops=>intro ff σ tp q x h;exact Om ops h
 |exit i=>intro ff σ tp q x h;cases h;exact⟨id,fun _=>⟨0,fun n _ ff0 hs=>⟨ff0,rfl,hs⟩⟩⟩
 |ret=>intro ff σ tp q x h;cases h;exact⟨id,fun _=>⟨0,fun n _ ff0 hs=>⟨ff0,rfl,hs⟩⟩⟩
 |seq a b iha ihb=>
  intro ff σ tp q x h;have h':Uo (HZ pur R a ff σ tp q) (HZ pur R b)=some x:=h;obtain⟨y,hy,hc⟩:=Nw h';obtain⟨hq1,ho⟩:=iha hy;have hseq:∀n ff0,Fv pur (R n) n (.seq a b) ff0 σ=Option.rec (motive:=fun _=>RX) none (fun r=>cond (Gc r.1) (Fv pur (R n) n b r.2.1 r.2.2) (some r)) (Fv pur (R n) n a ff0 σ):=fun _ _=>rfl
  rcases hc with⟨he,hk⟩ | ⟨hne,rfl⟩
  ·obtain⟨hq2,hr⟩:=ihb hk;refine⟨fun hx=>hq1 (hq2 hx),fun hx=>?_⟩
   obtain⟨N1,H1⟩:=ho (hq2 hx);obtain⟨N2,H2⟩:=hr hx;rw[he] at H1;refine⟨max N1 N2,fun n hn ff0 hs=>?_⟩
   obtain⟨ff1,a1,a2⟩:=H1 n (by omega) ff0 hs
   obtain⟨ff2,b1,b2⟩:=H2 n (by omega) ff1 a2
   refine⟨ff2,?_,b2⟩
   rw[hseq,a1];exact b1
  ·refine⟨hq1,fun hx=>?_⟩
   obtain⟨N1,H1⟩:=ho hx;refine⟨N1,fun n hn ff0 hs=>?_⟩
   obtain⟨ff1,a1,a2⟩:=H1 n hn ff0 hs;refine⟨ff1,?_,a2⟩
   rw[hseq,a1];obtain⟨e,f,s,t,qq⟩:=y;cases e with
   |normal=>exact absurd rfl hne
   |exit i=>rfl
   |ret=>rfl
 |cond c a b iha ihb=>
  intro ff σ tp q x h;have hcond:∀n ff0,Fv pur (R n) n (.cond c a b) ff0 σ=dI (Eu ff0 [c]) (Fv pur (R n) n a ff0 σ) (Fv pur (R n) n b ff0 σ):=fun _ _=>rfl
  have key:∀(bb:Bool) (t:Tape) (qq:Prop),Eu ff [c]=some [.bool bb]→cond bb (HZ pur R a ff σ t qq) (HZ pur R b ff σ t qq)=some x→(x.q→qq)∧(x.q→M7 pur R (.cond c a b) ff σ x.e x.ff x.σ):=by
   intro bb t qq hv hx;cases bb with
   |true=>
    obtain⟨h1,h2⟩:=iha hx;refine⟨h1,fun hq=>?_⟩
    obtain⟨N,H⟩:=h2 hq;refine⟨N,fun n hn ff0 hs=>?_⟩
    rw[hcond,Jk hs _ _ hv];exact H n hn ff0 hs
   |false=>
    obtain⟨h1,h2⟩:=ihb hx;refine⟨h1,fun hq=>?_⟩
    obtain⟨N,H⟩:=h2 hq;refine⟨N,fun n hn ff0 hs=>?_⟩
    rw[hcond,Jk hs _ _ hv];exact H n hn ff0 hs
  have h':Zv c (HZ pur R a) (HZ pur R b) ff σ tp q=some x:=h
  revert h'
  unfold Zv;refine K8 (fun r=>r=some x→(x.q→q)∧(x.q→M7 pur R (.cond c a b) ff σ x.e x.ff x.σ)) (fun t hx=>?_) (fun t an hx=>?_)
  ·split at hx
   ·rename_i bb hv;exact key bb t q hv hx
   ·cases hx
  ·cases an with
   |br bb=>
    have hx':cond bb (HZ pur R a ff σ t (Eu ff [c]=some [.bool bb]∧q)) (HZ pur R b ff σ t (Eu ff [c]=some [.bool bb]∧q))=some x:=hx
    have hq:x.q→(Eu ff [c]=some [.bool bb]∧q):=by
     cases bb with
     |true=>exact(iha hx').1
     |false=>exact(ihb hx').1
    exact⟨fun hq'=>(hq hq').2,fun hq'=>(key bb t _ (hq hq').1 hx').2 hq'⟩
   |_=>cases hx
 |block id c ih=>
  intro ff σ tp q x h;have h':eD id (HZ pur R c ff σ tp q)=some x:=h;have hb:∀n ff0,Fv pur (R n) n (.block id c) ff0 σ=Option.rec (motive:=fun _=>RX) none (fun r=>Cu.rec (motive:=fun _=>RX) (some r) (fun i=>cond (Nat.beq i id) (some (.normal,r.2)) (some r)) (some r) r.1) (Fv pur (R n) n c ff0 σ):=fun _ _=>rfl
  cases hr:HZ pur R c ff σ tp q with
  |none=>rw[hr] at h';cases h'
  |some y=>
   rw[hr] at h';obtain⟨hq1,ho⟩:=ih hr;obtain⟨e,f,s,t,qq⟩:=y;cases e with
   |normal=>
    cases h';refine⟨hq1,fun hq=>?_⟩
    obtain⟨N,H⟩:=ho hq;refine⟨N,fun n hn ff0 hs=>?_⟩
    obtain⟨ff1,a1,a2⟩:=H n hn ff0 hs;exact⟨ff1,by rw[hb,a1],a2⟩
   |ret=>
    cases h';refine⟨hq1,fun hq=>?_⟩
    obtain⟨N,H⟩:=ho hq;refine⟨N,fun n hn ff0 hs=>?_⟩
    obtain⟨ff1,a1,a2⟩:=H n hn ff0 hs;exact⟨ff1,by rw[hb,a1],a2⟩
   |exit i=>
    have h'':cond (Nat.beq i id) (some (⟨.normal,f,s,t,qq⟩:TO)) (some ⟨.exit i,f,s,t,qq⟩)=some x:=h';cases hi:Nat.beq i id with
    |true=>
     rw[hi] at h'';cases h'';refine⟨hq1,fun hq=>?_⟩
     obtain⟨N,H⟩:=ho hq;refine⟨N,fun n hn ff0 hs=>?_⟩
     obtain⟨ff1,a1,a2⟩:=H n hn ff0 hs;exact⟨ff1,by rw[hb,a1];dsimp only;rw[hi];rfl,a2⟩
    |false=>
     rw[hi] at h'';cases h'';refine⟨hq1,fun hq=>?_⟩
     obtain⟨N,H⟩:=ho hq;refine⟨N,fun n hn ff0 hs=>?_⟩
     obtain⟨ff1,a1,a2⟩:=H n hn ff0 hs;exact⟨ff1,by rw[hb,a1];dsimp only;rw[hi];rfl,a2⟩
 |loop keep c _=>
  intro ff σ tp q x h;have h':nP pur R keep c ff σ tp q=some x:=h
  revert h'
  unfold nP;refine K8 (fun r=>r=some x→(x.q→q)∧(x.q→M7 pur R (.loop keep c) ff σ x.e x.ff x.σ)) (fun t hx=>by cases hx) (fun t an hx=>?_)
  cases an with
  |loop ls e f s=>
   cases hx;refine⟨fun hq=>hq.2,fun hq=>?_⟩
   obtain⟨N,H⟩:=hq.1;refine⟨N,fun n hn ff0 hs=>?_⟩
   refine H n hn n hn (EC ff0 keep 0) ((Ni _ _).trans fun t v hv=>?_)
   exact mask_sub hs keep 0 t v hv
  |_=>cases hx
 where
 mask_sub {ff ff0:FF} (hs:Sub ff ff0):∀(keep:List Bool) (i:Nat),Sub (EC ff keep i) (EC ff0 keep i)
  |[],i,t,v,h=>by cases h
  |b::keep,i,t,v,h=>by
   cases b with
   |false=>exact mask_sub hs keep (i+1) t v h
   |true=>
    have h':cond (Nat.beq i t) (EK ff i) (EK (EC ff keep (i+1)) t)=some v:=h;show cond (Nat.beq i t) (EK ff0 i) (EK (EC ff0 keep (i+1)) t)=some v;cases hb:Nat.beq i t with
    |true=>rw[hb] at h';exact hs i v h'
    |false=>rw[hb] at h';exact mask_sub hs keep (i+1) t v h'
end
section
variable(pur:FuncId→Bool)(R:Nat→Caller)
noncomputable def S9(e:Cu)(x:Option (PV×Sto×Prop)):Option (PV×Sto×Prop):=Cu.rec (motive:=fun _=>Option (PV×Sto×Prop)) x (fun _=>none) x e
noncomputable def runT(fn:Bb)(args:List PV)(σ:Sto)(tp:Tape):Option (PV×Sto×Prop):=
 cond (Nat.beq args.length fn.nargs&&Nat.ble args.length fn.ntmps)
  (Option.rec (motive:=fun _=>Option (PV×Sto×Prop)) none (fun o=>S9 o.e (Option.rec (motive:=fun _=>Option (PV×Sto×Prop)) none (fun vs=>Option.rec (motive:=fun _=>Option (PV×Sto×Prop)) none (fun r=>some (r,o.σ,o.q)) (DL vs)) (Gm o.ff fn.results))) (HZ pur R fn.code (Le args 0) σ tp True)) none
noncomputable def oZ(fn:Bb)(args:List PV)(σ:Sto)(tp:Tape)(r:PV):Option (PV×Sto×Prop):=
 cond (Nat.beq args.length fn.nargs&&Nat.ble args.length fn.ntmps)
  (Option.rec (motive:=fun _=>Option (PV×Sto×Prop)) none (fun o=>S9 o.e (some (r,o.σ,(Gm o.ff fn.results).bind DL=some r∧o.q))) (HZ pur R fn.code (Le args 0) σ tp True)) none
noncomputable def qN(keep:List Bool)(c:Db)(ls:List Nat)(ff:FF)(σ:Sto)(tp:Tape):Option (FF×Sto×Prop):=
 Option.rec (motive:=fun _=>Option (FF×Sto×Prop)) none (fun o=>cond (Gc o.e) (some (VP ls (EC o.ff keep 0),o.σ,o.q)) none) (HZ pur R c ff σ tp True)
noncomputable def gq(c:Db)(ls:List Nat)(ff:FF)(σ:Sto)(tp:Tape):Option (Cu×FF×Sto×Prop):=
 Option.rec (motive:=fun _=>Option (Cu×FF×Sto×Prop)) none (fun o=>cond (Gc o.e) none (some (o.e,VP ls o.ff,o.σ,o.q))) (HZ pur R c ff σ tp True)
end
section
variable{pur:FuncId→Bool}{R:Nat→Caller}
theorem O4{ff ff0:FF}(h:Sub ff ff0):∀(rs:List (Nat×Option Nat)) (vs:List PV),Gm ff rs=some vs→Gm ff0 rs=some vs
 |[],vs,hr=>hr
 |(t,n)::rs,vs,hr=>by
  have hr':(match EK ff t,Gm ff rs with | some v,some vs=>if KE v n then some (v.Ae::vs) else(LD v n).map fun r=>r::vs | _,_=>none)=some vs:=hr
  show(match EK ff0 t,Gm ff0 rs with | some v,some vs=>if KE v n then some (v.Ae::vs) else(LD v n).map fun r=>r::vs | _,_=>none)=some vs
  split at hr'
  ·rename_i v ws hg hw;rw[h t v hg,O4 h rs ws hw];exact hr'
  ·cases hr'
theorem yx{f:FuncId}{af:Bb}{args:List PV}{σ σ':Sto}{r:PV}{tp:Tape}{q:Prop}(hR:∀n,R (n+1) f args σ=J8 pur (R n) n af args σ)(hq:q)(h:runT pur R af args σ tp=some (r,σ',q)):Ev R f args σ r σ':=by
 unfold runT at h;cases hb:(Nat.beq args.length af.nargs&&Nat.ble args.length af.ntmps) with
 |false=>rw[hb] at h;cases h
 |true=>
  rw[hb] at h;cases hx:HZ pur R af.code (Le args 0) σ tp True with
  |none=>rw[hx] at h;cases h
  |some o=>
   rw[hx] at h;obtain⟨_,hs⟩:=Gj af.code hx;obtain⟨e,f1,s1,t1,q1⟩:=o;dsimp only[cond_true] at h hs
   have fin:∀{e},e=.normal∨e=.ret→M7 pur R af.code (Le args 0) σ e f1 s1→
     (Option.rec (motive:=fun _=>Option (PV×Sto×Prop)) none (fun vs=>Option.rec (motive:=fun _=>Option (PV×Sto×Prop)) none (fun r=>some (r,s1,q1)) (DL vs)) (Gm f1 af.results))=some (r,σ',q)→Ev R f args σ r σ':=by
    intro e he hc hh;cases hv:Gm f1 af.results with
    |none=>rw[hv] at hh;cases hh
    |some vs=>
     rw[hv] at hh;dsimp only at hh;cases hp:DL vs with
     |none=>rw[hp] at hh;cases hh
     |some p=>
      rw[hp] at hh;cases hh;obtain⟨N,H⟩:=hc;refine⟨N+1,fun n hn=>?_⟩
      obtain⟨n,rfl⟩:∃m,n=m+1:=⟨n - 1,by omega⟩
      rw[hR];obtain⟨ff1,a1,a2⟩:=H n (by omega) _ (Sub.refl _)
      unfold J8;rw[hb,a1];have hv':=O4 a2 _ _ hv;rcases he with rfl | rfl
      ·dsimp only[cond_true];rw[hv'];simp[hp]
      ·dsimp only[cond_true];rw[hv'];simp[hp]
   cases e with
   |normal=>
    have h':=h
    have hq':q1:=by
     cases hv:Gm f1 af.results with
     |none=>simp only[S9,hv] at h';cases h'
     |some vs=>
      simp only[S9,hv] at h';cases hp:DL vs with
      |none=>rw[hp] at h';cases h'
      |some p=>rw[hp] at h';cases h';exact hq
    exact fin (.inl rfl) (hs hq') h
   |exit i=>cases h
   |ret=>
    have h':=h
    have hq':q1:=by
     cases hv:Gm f1 af.results with
     |none=>simp only[S9,hv] at h';cases h'
     |some vs=>
      simp only[S9,hv] at h';cases hp:DL vs with
      |none=>rw[hp] at h';cases h'
      |some p=>rw[hp] at h';cases h';exact hq
    exact fin (.inr rfl) (hs hq') h
theorem sM{f:FuncId}{af:Bb}{args:List PV}{σ σ':Sto}{r:PV}{tp:Tape}{q:Prop}(hR:∀n,R (n+1) f args σ=J8 pur (R n) n af args σ)(hq:q)(h:oZ pur R af args σ tp r=some (r,σ',q)):Ev R f args σ r σ':=by
 unfold oZ at h;cases hb:(Nat.beq args.length af.nargs&&Nat.ble args.length af.ntmps) with
 |false=>rw[hb] at h;cases h
 |true=>
  rw[hb] at h;cases hx:HZ pur R af.code (Le args 0) σ tp True with
  |none=>rw[hx] at h;cases h
  |some o=>
   rw[hx] at h;obtain⟨_,hs⟩:=Gj af.code hx;obtain⟨e,f1,s1,t1,q1⟩:=o;dsimp only[cond_true] at h hs
   have fin:∀{e},e=.normal∨e=.ret→M7 pur R af.code (Le args 0) σ e f1 s1→(Gm f1 af.results).bind DL=some r→s1=σ'→Ev R f args σ r σ':=by
    rintro e he hc hh rfl
    obtain⟨vs,hv,hp⟩:=AL.1 hh;obtain⟨N,H⟩:=hc;refine⟨N+1,fun n hn=>?_⟩
    obtain⟨n,rfl⟩:∃m,n=m+1:=⟨n - 1,by omega⟩
    rw[hR];obtain⟨ff1,a1,a2⟩:=H n (by omega) _ (Sub.refl _)
    unfold J8;rw[hb,a1];have hv':=O4 a2 _ _ hv;rcases he with rfl | rfl
    ·dsimp only[cond_true];rw[hv'];simp[hp]
    ·dsimp only[cond_true];rw[hv'];simp[hp]
   cases e with
   |normal=>cases h;exact fin (.inl rfl) (hs hq.2) hq.1 rfl
   |exit i=>cases h
   |ret=>cases h;exact fin (.inr rfl) (hs hq.2) hq.1 rfl
theorem TD(keep:List Bool)(body:FF→Sto→RX)(m:Nat)(ff:FF)(σ:Sto):V4 keep body (m+1) ff σ=Option.rec (motive:=fun _=>RX) none (fun r=>cond (Gc r.1) (V4 keep body m (EC r.2.1 keep 0) r.2.2) (some r)) (body ff σ):=rfl
theorem lD{keep:List Bool}{c:Db}{ls:List Nat}{ff ffn ff':FF}{σ σn σ':Sto}{e:Cu}{tp:Tape}{q:Prop}(hq:q)(hl:Kr pur R keep c ffn σn e ff' σ')(h:qN pur R keep c ls ff σ tp=some (ffn,σn,q)):Kr pur R keep c ff σ e ff' σ':=by
 unfold qN at h;cases hx:HZ pur R c ff σ tp True with
 |none=>rw[hx] at h;cases h
 |some o=>
  rw[hx] at h;obtain⟨_,hs⟩:=Gj c hx;obtain⟨e1,f1,s1,t1,q1⟩:=o;cases e1 with
  |exit i=>cases h
  |ret=>cases h
  |normal=>
   cases h;obtain⟨N1,H1⟩:=hs hq;obtain⟨N2,H2⟩:=hl;refine⟨max N1 (N2+1),fun n hn m hm ff0 hs0=>?_⟩
   obtain⟨m,rfl⟩:∃m',m=m'+1:=⟨m - 1,by omega⟩
   obtain⟨ff1,a1,a2⟩:=H1 n (by omega) ff0 hs0
   obtain⟨ff2,b1,b2⟩:=H2 n (by omega) m (by omega) (EC ff1 keep 0) ((Ni _ _).trans (Gj.mask_sub a2 keep 0))
   refine⟨ff2,?_,b2⟩
   rw[TD,a1];exact b1
theorem gm{keep:List Bool}{c:Db}{ls:List Nat}{ff ff':FF}{σ σ':Sto}{e:Cu}{tp:Tape}{q:Prop}(hq:q)(h:gq pur R c ls ff σ tp=some (e,ff',σ',q)):Kr pur R keep c ff σ e ff' σ':=by
 unfold gq at h;cases hx:HZ pur R c ff σ tp True with
 |none=>rw[hx] at h;cases h
 |some o=>
  rw[hx] at h;obtain⟨_,hs⟩:=Gj c hx;obtain⟨e1,f1,s1,t1,q1⟩:=o
  have key:Gc e1=false→(e1,VP ls f1,s1,q1)=(e,ff',σ',q)→Kr pur R keep c ff σ e ff' σ':=by
   intro hn0 he;cases he;obtain⟨N1,H1⟩:=hs hq;refine⟨N1+1,fun n hn m hm ff0 hs0=>?_⟩
   obtain⟨m,rfl⟩:∃m',m=m'+1:=⟨m - 1,by omega⟩
   obtain⟨ff1,a1,a2⟩:=H1 n (by omega) ff0 hs0
   refine⟨ff1,?_,(Ni _ _).trans a2⟩
   rw[TD,a1];show cond (Gc _) _ _=_;rw[hn0];rfl
  cases e1 with
  |normal=>cases h
  |exit i=>exact key rfl (Option.some.inj h)
  |ret=>exact key rfl (Option.some.inj h)
theorem FV{k:PK}{vs:List PV}{σ:Sto}{rs:List (Option PV)}(h:Be k vs=some rs):Bh pur R (.p k) vs σ rs σ:=⟨0,fun _ _=>by simp only[sem,h,AO]⟩
theorem AwB{k:RK}{vs:List PV}{σ:Sto}{rs:List (Option PV)}(h:Fq k vs σ=some rs):Bh pur R (.r k) vs σ rs σ:=⟨0,fun _ _=>by simp only[sem,h,AO]⟩
theorem Fy{f:FuncId}{vs zs:List PV}{σ s:Sto}{r r':PV}(h:Ev R f zs [] r s)(hv:vs.map PV.Ae=zs:=by rfl)(hf:(vs.all PV.free&&vs.all PV.flat)=true:=by rfl)(hr:r.flat=true:=by rfl)(hd:r.Ae=r':=by rfl):Bh pur R (.c f) vs σ [some r'] σ:=by
 obtain⟨N,H⟩:=h;exact⟨N,fun n hn=>by simp only[sem,hf,if_true,hv,H n hn,Dx,hr,hd]⟩
theorem Ct{f:FuncId}{vs zs:List PV}{σ σ':Sto}{r r':PV}(h:Ev R f zs σ r σ')(hp:pur f=false:=by rfl)(hv:vs.map PV.Ae=zs:=by rfl)(hf:vs.all PV.free=true:=by rfl)(hd:r.Ae=r':=by rfl):Bh pur R (.w (.call f)) vs σ [some r'] σ':=by
 obtain⟨N,H⟩:=h;refine⟨N,fun n hn=>?_⟩
 show EW pur (R n) (.call f) vs σ=_;unfold EW;simp only[hf,if_true,hp,Bool.false_eq_true,if_false,hv,H n hn,AO,hd]
theorem NW{f:FuncId}{fs cs vs zs:List PV}{σ σ':Sto}{r r':PV}(h:Ev R f zs σ r σ')(hp:pur f=false)(hv:(fs++vs++cs).map PV.Ae=zs:=by simp)(hf:vs.all PV.free=true:=by simp)(hd:r.Ae=r':=by simp):Bh pur R (.w .calld) (.func f fs cs::vs) σ [some r'] σ':=by
 obtain⟨N,H⟩:=h;refine⟨N,fun n hn=>?_⟩
 show EW pur (R n) .calld (.func f fs cs::vs) σ=_;unfold EW;simp only[hf,if_true,hp,Bool.false_eq_true,if_false,hv,H n hn,AO,hd]
theorem Jy{f:FuncId}{fs cs vs zs:List PV}{σ s:Sto}{r r':PV}(h:Ev R f zs [] r s)(hp:pur f=true:=by rfl)(hv:(fs++vs++cs).map PV.Ae=zs:=by rfl)(hf:vs.all PV.free=true:=by rfl)(hfl:zs.all PV.flat=true:=by rfl)(hr:r.flat=true:=by rfl)(hd:r.Ae=r':=by rfl):Bh pur R (.w .calld) (.func f fs cs::vs) σ [some r'] σ:=by
 obtain⟨N,H⟩:=h;refine⟨N,fun n hn=>?_⟩
 show EW pur (R n) .calld (.func f fs cs::vs) σ=_;unfold EW;simp only[hf,if_true,hp,hv,hfl,H n hn,Dx,hr,hd]
end
end Go.Abs

namespace Go.Abs.Z
open Go.Proofs Go.RowKit
inductive Tr where
 |mk (kind:Int) (text:List UInt8) (st en:Int) (none:Bool) (kids:List Tr)
 deriving Inhabited
mutual
def Tr.pv:Tr→PV
 |.mk k t a e n ks=>.agg [.int .i64 k,.str t,.int .i64 a,.int .i64 e,if n then .nils else .slice false 5 (Tr.pvs ks)]
def Tr.pvs:List Tr→List PV
 |[]=>[]
 |t::ts=>t.pv::Tr.pvs ts
end
mutual
def Tr.wf:Tr→Prop
 |.mk k t a e n ks=>(n=true→ks=[])∧Tr.wfs ks
def Tr.wfs:List Tr→Prop
 |[]=>True
 |t::ts=>t.wf∧Tr.wfs ts
end
theorem Tr.Fj:∀ks:List Tr,Tr.pvs ks=ks.map Tr.pv
 |[]=>rfl
 |t::ts=>by rw[Tr.pvs,Tr.Fj ts];rfl
theorem Tr.iD:∀{ks:List Tr},Tr.wfs ks→∀k∈ks,k.wf
 |[],_,k,h=>by cases h
 |t::ts,hw,k,h=>by
  rcases AY.1 h with rfl | h
  ·exact hw.1
  ·exact Tr.iD hw.2 k h
def Tr.kids:Tr→List Tr
 |.mk _ _ _ _ _ ks=>ks
def Tr.kp:Tr→PV
 |.mk _ _ _ _ n ks=>if n then .nils else .slice false 5 (Tr.pvs ks)
def Tr.kind:Tr→Int
 |.mk k _ _ _ _ _=>k
def Tr.text:Tr→List UInt8
 |.mk _ t _ _ _ _=>t
def Tr.st:Tr→Int
 |.mk _ _ a _ _ _=>a
def Tr.en:Tr→Int
 |.mk _ _ _ e _ _=>e
def nd(k:Int)(t:List UInt8)(a e:Int)(kp:PV):PV:=.agg [.int .i64 k,.str t,.int .i64 a,.int .i64 e,kp]
def jk(kp:PV):Prop:=kp.Cc=kp∧kp.isAgg=false∧kp.isSelf=false∧kp.flat=true
theorem VV{k a e:Int}{t:List UInt8}{kp:PV}(h:jk kp):(nd k t a e kp).Ae=nd k t a e kp:=by
 show PV.agg [.int .i64 k,.str t,.int .i64 a,.int .i64 e,kp.Cc]=_;rw[h.1];rfl
theorem AWF{k a e:Int}{t:List UInt8}{kp:PV}(h:jk kp):Be (.fa 4 1 false) [.vptr (nd k t a e kp)]=some [some (.vptr kp)]:=by
 simp[Be,faV,sub,nd,PV.cells,h.2.1,h.2.2.1]
theorem Tr.H7(T:Tr):T.pv=nd T.kind T.text T.st T.en T.kp:=by cases T;rfl
theorem Tr.jH(T:Tr):jk T.kp:=by
 obtain⟨k,t,a,e,n,ks⟩:=T;show jk (if n then .nils else .slice false 5 (Tr.pvs ks))
 cases n
 ·exact⟨rfl,rfl,rfl,rfl⟩
 ·exact⟨rfl,rfl,rfl,rfl⟩
theorem Tr.F9(T:Tr):T.pv.Ae=T.pv:=by rw[Tr.H7,VV T.jH]
theorem Tr.RB(T:Tr):T.pv.flat=true:=by rw[Tr.H7];rfl
theorem Tr.Ik(T:Tr):T.pv.free=true:=by rw[Tr.H7];rfl
theorem Tr.fD(T:Tr):T.pv.okc=true:=by rw[Tr.H7];rfl
theorem Tr.Nh(T:Tr):T.pv.cells.length=5:=by rw[Tr.H7];rfl
theorem Tr.Yx(T:Tr):T.pv.ones=true:=by
 obtain⟨k,t,a,e,n,ks⟩:=T;cases n<;>rfl
theorem BjY(v:PV)(h:v.free=true):Be .mv [v]=some [some v.Ae]:=by simp[Be,h]
theorem BjZ(v:PV)(h:v.flat=true):Be .bx [v]=some [some (.vptr v.Ae)]:=by simp[Be,h]
theorem SX(o:Bool)(s j:Nat)(x:List PV)(v:PV)(h:x[j]?=some v):Be (.idx s) [.slice o s x,.int .i64 j]=some [some (.vptr v)]:=by
 have:(0:Int)≤(j:Int):=by omega
 simp[Be,cK,h,this]
theorem Bg(s:List UInt8)(j:Nat)(c:UInt8)(h:s[j]?=some c):Be .sidx [.str s,.int .i64 j]=some [some (.int .u8 c.toNat)]:=by
 have:(0:Int)≤(j:Int):=by omega
 simp[Be,VJ,h,this]
theorem NU(s:List UInt8)(l h:Nat)(h1:l≤h:=by omega)(h2:h≤s.length:=by omega):Be (.ssl true true) [.str s,.int .i64 (l:Nat),.int .i64 (h:Nat)]=some [some (.str ((s.drop l).take (h - l)))]:=by
 have h0:(0:Int)≤(l:Int):=by omega
 have h1':(l:Int)≤(h:Int):=by omega
 have h2':(h:Int)≤(s.length:Int):=by omega
 simp[Be,PN,h1',h2']
theorem AWW(s t:Nat)(v:Option PV)(ff:FF):EK ((s,v)::ff) t=if s=t then v else EK ff t:=by
 by_cases h:s=t
 ·subst h;rw[if_pos rfl,Lg];have:Nat.beq s s=true:=Nat.beq_refl _;simp[this]
 ·rw[if_neg h,Lg];cases hb:Nat.beq s t with
  |false=>simp[hb]
  |true=>exact absurd (BP hb) h
section
variable(k:IntKind)(x:Int)(s:List UInt8)(b:Bool)(o:Bool)(z:Nat)(l:List PV)
theorem vd1:(PV.int k x).Ae=.int k x:=rfl
theorem vd2:(PV.str s).Ae=.str s:=rfl
theorem vd3:(PV.bool b).Ae=.bool b:=rfl
theorem vd4:PV.nils.Ae=.nils:=rfl
theorem vd5:(PV.slice o z l).Ae=.slice false z l:=rfl
theorem vf1:(PV.int k x).free=true:=rfl
theorem vf2:(PV.str s).free=true:=rfl
theorem vf3:(PV.bool b).free=true:=rfl
theorem vf4:PV.nils.free=true:=rfl
theorem vf5:(PV.slice o z l).free=true:=rfl
theorem vg1:(PV.int k x).flat=true:=rfl
theorem vg2:(PV.str s).flat=true:=rfl
theorem vg3:(PV.bool b).flat=true:=rfl
theorem vg4:PV.nils.flat=true:=rfl
theorem vg5:(PV.slice o z l).flat=true:=rfl
end
attribute [simp] AWW vd1 vd2 vd3 vd4 vd5 vf1 vf2 vf3 vf4 vf5 vg1 vg2 vg3 vg4 vg5
end Go.Abs.Z

namespace Go.Abs.Z
noncomputable section
open Go.Proofs Go.RowKit
abbrev E:=Ev run
abbrev LE:=Kr pur run
def lps:Db→List (List Bool×Db)
 |.seq a b=>lps a++lps b
 |.cond _ a b=>lps a++lps b
 |.block _ a=>lps a
 |.loop k a=>(k,a)::lps a
 |_=>[]
def ml(f:Bb)(k:Nat):List Bool:=((lps f.code).getD k ([],.skip)).1
def lc(f:Bb)(k:Nat):Db:=((lps f.code).getD k ([],.skip)).2
abbrev LL(f:Bb)(k:Nat):=LE (ml f k) (lc f k)
abbrev N(n:Nat):PV:=.int .i64 (n:Int)
abbrev I(x:Int):PV:=.int .i64 x
def Rn(f:FuncId)(af:Bb):Prop:=∀n args σ,run (n+1) f args σ=J8 pur (run n) n af args σ
structure Stp where
 g:Nat
 a:Ans
 q:Prop→Prop
 pf:∀{x:Prop},x→q x
section
variable{R:Nat→Caller}{k:AK}{vs:List PV}{σ σ':Sto}{rs:List (Option PV)}
def st(g:Nat)(h:Bh pur R k vs σ rs σ'):Stp:=⟨g,.res rs (some σ'),fun x=>Bh pur R k vs σ rs σ'∧x,fun x=>⟨h,x⟩⟩
def sg(g:Nat)(h:Bh pur R k vs σ rs σ'):Stp:=⟨g,.grdr rs (some σ'),fun x=>Bh pur R k vs σ rs σ'∧(some true=some true∧x),fun x=>⟨h,rfl,x⟩⟩
def sp(g:Nat){k:PK}(h:Be k vs=some rs):Stp:=⟨g,.res rs none,fun x=>(∀(R:Nat→Caller) (σ:Sto),Bh pur R (.p k) vs σ rs σ)∧x,fun x=>⟨fun _ _=>FV h,x⟩⟩
def sq(g:Nat){k:PK}(h:Be k vs=some rs):Stp:=⟨g,.grdr rs none,fun x=>(∀(R:Nat→Caller) (σ:Sto),Bh pur R (.p k) vs σ rs σ)∧(some true=some true∧x),fun x=>⟨fun _ _=>FV h,rfl,x⟩⟩
def sl(g:Nat)(ls:List Nat){keep:List Bool}{c:Db}{ff ff1:FF}{e:Cu}(h:Kr pur R keep c ff σ e ff1 σ'):Stp:=⟨g,.loop ls e ff1 σ',fun x=>Kr pur R keep c ff σ e ff1 σ'∧x,fun x=>⟨h,x⟩⟩
end
def Mk(l:List Stp):Tape:=List.rec (motive:=fun _=>Tape) [] (fun s _ ih=>(s.g,s.a)::ih) l
def qOf(l:List Stp):Prop→Prop:=List.rec (motive:=fun _=>Prop→Prop) (fun x=>x) (fun s _ ih x=>ih (s.q x)) l
theorem Ov:∀(l:List Stp) {x:Prop},x→qOf l x
 |[],_,h=>h
 |s::l,_,h=>Ov l (s.pf h)
theorem rule{f:FuncId}{af:Bb}{args:List PV}{σ σ':Sto}{r:PV}(hR:Rn f af)(l:List Stp)(h:runT pur run af args σ (Mk l)=some (r,σ',qOf l True):=by kernel_rfl):E f args σ r σ':=yx (fun n=>hR n args σ) (Ov l trivial) h
theorem Bt{f:FuncId}{af:Bb}{args:List PV}{σ σ':Sto}{r:PV}{ff:FF}{rs:List (Nat×Option Nat)}(hR:Rn f af)(l:List Stp)(ho:(Gm ff rs).bind DL=some r)(h:oZ pur run af args σ (Mk l) r=some (r,σ',(Gm ff rs).bind DL=some r∧qOf l True):=by kernel_rfl):E f args σ r σ':=sM (fun n=>hR n args σ) ⟨ho,Ov l trivial⟩ h
theorem BM{keep:List Bool}{c:Db}{ff ffn ff':FF}{σ σn σ':Sto}{e:Cu}(ls:List Nat)(l:List Stp)(hl:Kr pur run keep c ffn σn e ff' σ')(h:qN pur run keep c ls ff σ (Mk l)=some (ffn,σn,qOf l True):=by kernel_rfl):Kr pur run keep c ff σ e ff' σ':=lD (Ov l trivial) hl h
theorem BA{keep:List Bool}{c:Db}{ff ff':FF}{σ σ':Sto}{e:Cu}(ls:List Nat)(l:List Stp)(h:gq pur run c ls ff σ (Mk l)=some (e,ff',σ',qOf l True):=by kernel_rfl):Kr pur run keep c ff σ e ff' σ':=gm (Ov l trivial) h
theorem P{k:PK}{vs:List PV}{rs:List (Option PV)}(h:Be k vs=some rs):Bh pur run (.p k) vs [] rs []:=FV h
theorem PS(σ:Sto){k:PK}{vs:List PV}{rs:List (Option PV)}(h:Be k vs=some rs):Bh pur run (.p k) vs σ rs σ:=FV h
theorem Q{k:RK}{vs:List PV}{rs:List (Option PV)}(h:Fq k vs []=some rs):Bh pur run (.r k) vs [] rs []:=AwB h
theorem QS(σ:Sto){k:RK}{vs:List PV}{rs:List (Option PV)}(h:Fq k vs σ=some rs):Bh pur run (.r k) vs σ rs σ:=AwB h
theorem Ns{f:FuncId}{args:List PV}{σ σ':Sto}{r:PV}(N:Nat)(h:∀n,N≤n→run (n+1) f args σ=some (r,σ')):E f args σ r σ':=
 ⟨N+1,fun n hn=>by obtain⟨n,rfl⟩:∃m,n=m+1:=⟨n - 1,by omega⟩;exact h n (by omega)⟩
def Bw(size:Nat):List PV→PV
 |[]=>.nils
 |es=>.slice true size es
def BG(size:Nat):List PV→PV
 |[]=>.nils
 |es=>.slice false size es
section
variable{σ:Sto}{k:IntKind}
theorem Pm{v x:PV}(hf:v.free=true)(h:v.Ae=x):Be .mv [v]=some [some x]:=by rw[BjY v hf,h]
theorem LW(size:Nat)(es:List PV):(Bw size es).Ae=BG size es:=by cases es<;>rfl
theorem KM(size:Nat)(es:List PV):(BG size es).Ae=BG size es:=by cases es<;>rfl
theorem UE(size:Nat)(es:List PV):(Bw size es).free=true:=by cases es<;>rfl
theorem NC(size:Nat)(es:List PV):(BG size es).free=true:=by cases es<;>rfl
theorem ND(size:Nat)(es:List PV):(BG size es).flat=true:=by cases es<;>rfl
theorem dU(size:Nat)(es:List PV):(Bw size es).flat=true:=by cases es<;>rfl
theorem Qt(T:Tr):T.kp.Ae=T.kp:=by
 obtain⟨k,t,a,e,n,ks⟩:=T;cases n<;>rfl
theorem xV(T:Tr):T.kp.Cc=T.kp:=T.jH.1
theorem Pw(T:Tr):T.kp.free=true:=by
 obtain⟨k,t,a,e,n,ks⟩:=T;cases n<;>rfl
theorem xW(T:Tr):T.kp.flat=true:=by
 obtain⟨k,t,a,e,n,ks⟩:=T;cases n<;>rfl
theorem NY(T:Tr):Be .mv [T.kp]=some [some T.kp]:=Pm (Pw T) (Qt T)
theorem qQ(size:Nat)(es:List PV):Be .mv [Bw size es]=some [some (BG size es)]:=Pm (UE ..) (LW ..)
theorem GI(size:Nat)(es:List PV):Be .mv [BG size es]=some [some (BG size es)]:=Pm (NC ..) (KM ..)
theorem AwJ{v x:PV}(hf:v.free=true)(h:v.Ae=x):Be .mvo [v]=some [some v,some x]:=by
 show(if v.free=true then _ else _)=_
 rw[if_pos hf,h]
theorem KG(size:Nat)(es:List PV):Be .mvo [Bw size es]=some [some (Bw size es),some (BG size es)]:=AwJ (UE ..) (LW ..)
theorem AxQ{v x:PV}(hf:v.flat=true)(h:v.Ae=x):Be .bx [v]=some [some (.vptr x)]:=by rw[BjZ v hf,h]
theorem DD(T:Tr):Be .bx [T.pv]=some [some (.vptr T.pv)]:=AxQ T.RB T.F9
theorem AQI{v x:PV}(hf:v.okc=true)(h:v.Ae=x):Be .bxl [v]=some [some x]:=by
 show(if v.okc=true then _ else _)=_
 rw[if_pos hf,h]
theorem Y7(T:Tr):Be .bxl [T.pv]=some [some T.pv]:=AQI T.fD T.F9
theorem BF(T:Tr):Be (.sti 5) [.hole 5,T.pv]=some [some (.vptr T.pv)]:=by
 show(if _ then _ else _)=_
 rw[if_pos ⟨rfl,T.Nh,T.RB,T.Yx⟩,T.F9]
theorem rE{n:Nat}{ag:Bool}{v x:PV}(h1:fits n ag v=true)(h2:v.free=true)(h:v.Ae=x):Fq (.ld n ag) [.vptr v] σ=some [some x]:=by
 show(if fits n ag v=true∧v.free=true then some v else none).map (fun v=>[some v.Ae])=_
 rw[if_pos ⟨h1,h2⟩,←h];rfl
theorem Bu(T:Tr):Fq (.ld 5 true) [.vptr T.pv] σ=some [some T.pv]:=rE (by rw[Tr.H7];rfl) T.Ik T.F9
theorem GJ(T:Tr):Fq (.ld 1 false) [.vptr T.kp] σ=some [some T.kp]:=rE (by obtain⟨k,t,a,e,n,ks⟩:=T;cases n<;>rfl) (Pw T) (Qt T)
theorem rA(T:Tr):Be (.ldp 5 true) [.vptr T.pv]=some [some T.pv]:=by
 show(if fits 5 true T.pv=true∧T.pv.free=true then some T.pv else none).map (fun v=>[some v.Ae])=_
 rw[if_pos ⟨by rw[Tr.H7];rfl,T.Ik⟩,AO,T.F9]
theorem EO(T:Tr):Be (.fa 0 1 false) [.vptr T.pv]=some [some (.vptr (.int .i64 T.kind))]:=by rw[Tr.H7];rfl
theorem Fz(T:Tr):Be (.fa 1 1 false) [.vptr T.pv]=some [some (.vptr (.str T.text))]:=by rw[Tr.H7];rfl
theorem EB(T:Tr):Be (.fa 2 1 false) [.vptr T.pv]=some [some (.vptr (.int .i64 T.st))]:=by rw[Tr.H7];rfl
theorem Ji(T:Tr):Be (.fa 3 1 false) [.vptr T.pv]=some [some (.vptr (.int .i64 T.en))]:=by rw[Tr.H7];rfl
theorem E8(T:Tr):Be (.fa 4 1 false) [.vptr T.pv]=some [some (.vptr T.kp)]:=by rw[Tr.H7];exact AWF T.jH
theorem EY{T:Tr}(h:T.wf):Be (.len false) [T.kp]=some [some (.int .i64 (T.kids.length:Nat))]:=by
 obtain⟨k,t,a,e,n,ks⟩:=T;cases n
 ·show some [some (PV.int .i64 ((Tr.pvs ks).length:Nat))]=_;rw[Tr.Fj,Aq];rfl
 ·have:ks=[]:=h.1 rfl;subst this;rfl
theorem FZ(o:Bool)(s:Nat)(ts:List Tr):Be (.len false) [.slice o s (Tr.pvs ts)]=some [some (.int .i64 (ts.length:Nat))]:=by
 show some [some (PV.int .i64 ((Tr.pvs ts).length:Nat))]=_;rw[Tr.Fj,Aq]
theorem MN(o:Bool)(s:Nat)(ts:List (List UInt8)):Be (.len false) [.slice o s (ts.map .str)]=some [some (.int .i64 (ts.length:Nat))]:=by
 show some [some (PV.int .i64 ((ts.map PV.str).length:Nat))]=_;rw[Aq]
theorem MO(size:Nat)(es:List PV):Be (.len false) [BG size es]=some [some (.int .i64 (es.length:Nat))]:=by cases es<;>rfl
theorem Gn{o:Bool}{s:Nat}{ts:List Tr}{U:Tr}(j:Nat)(h:ts[j]?=some U):Be (.idx s) [.slice o s (Tr.pvs ts),.int .i64 (j:Nat)]=some [some (.vptr U.pv)]:=
 SX _ _ _ _ _ (by rw[Tr.Fj,Am,h];rfl)
theorem PH{o:Bool}{s:Nat}{ts:List (List UInt8)}{t:List UInt8}(j:Nat)(h:ts[j]?=some t):Be (.idx s) [.slice o s (ts.map .str),.int .i64 (j:Nat)]=some [some (.vptr (.str t))]:=
 SX _ _ _ _ _ (by rw[Am,h];rfl)
theorem IV{T U:Tr}(j:Nat)(w:T.wf)(h:T.kids[j]?=some U):Be (.idx 5) [T.kp,.int .i64 (j:Nat)]=some [some (.vptr U.pv)]:=by
 obtain⟨k,t,a,e,n,ks⟩:=T;cases n with
 |false=>exact Gn j h
 |true=>
  have:ks=[]:=w.1 rfl;subst this;cases h
theorem Hz{op:BinOp}{c:Nat}{x y:PV}{e v:Bool}(h:e=v)(hs:Be (.bin op c) [x,y]=some [some (.bool e)]):Be (.bin op c) [x,y]=some [some (.bool v)]:=by rw[hs,h]
theorem Ws{α:Type}[BEq α][LawfulBEq α]{x y:α}(h:x=y):(x==y)=true:=by simp[h]
theorem Wq{α:Type}[BEq α][LawfulBEq α]{x y:α}(h:x≠y):(x==y)=false:=by simp[h]
theorem mo{α:Type}[BEq α][LawfulBEq α]{x y:α}(h:x=y):(x != y)=false:=by simp[h]
theorem mi{α:Type}[BEq α][LawfulBEq α]{x y:α}(h:x≠y):(x != y)=true:=by simp[h]
theorem fT{α:Type}[BEq α][LawfulBEq α]{x y:α}(h:x=y):(!(x==y))=false:=by simp[h]
theorem fQ{α:Type}[BEq α][LawfulBEq α]{x y:α}(h:x≠y):(!(x==y))=true:=by simp[h]
theorem il{x y z:Int}(h:k.wrap (x+y)=z):Be (.bin .add 0) [.int k x,.int k y]=some [some (.int k z)]:=by
 rw[←h];cases k<;>rfl
theorem WG{x y z:Int}(h:k.wrap (x - y)=z):Be (.bin .sub 0) [.int k x,.int k y]=some [some (.int k z)]:=by
 rw[←h];cases k<;>rfl
theorem fU{x y z:Int}(h:k.wrap (x * y)=z):Be (.bin .mul 0) [.int k x,.int k y]=some [some (.int k z)]:=by
 rw[←h];cases k<;>rfl
theorem AB(j m:Nat)(h:j<2000000000)(hm:m<2000000000:=by decide):Be (.bin .add 0) [.int .i64 (j:Nat),.int .i64 (m:Nat)]=some [some (.int .i64 ((j+m:Nat):Int))]:=by
 apply il;simp[IntKind.wrap,IntKind.bits,IntKind.signed];omega
theorem Y0{k':IntKind}{x z:Int}(h:k'.wrap x=z):Be (.cvt k') [.int k x]=some [some (.int k' z)]:=by rw[←h];rfl
theorem JB(i:Nat){vs:List PV}{v x:PV}(h:vs[i]?=some v)(h2:vs.all PV.free=true∧v.Ae=x):Be (.ext i) [.tuple vs]=some [some x]:=by
 show(if vs.all PV.free=true then _ else _)=_
 rw[if_pos h2.1,h,AO,h2.2]
theorem Um{size:Nat}{vs ws:List PV}(h:vs.all (fun v=>v.cells.length==size&&v.flat)=true:=by simp)(h2:vs.map PV.Ae=ws:=by simp):Be (.bsl size) vs=some [some (.slice true size ws)]:=by
 show(if vs.all (fun v=>v.cells.length==size&&v.flat)=true then _ else _)=_
 rw[if_pos h,h2]
theorem jX{size:Nat}{s x:PV}{es xs:List PV}(h1:Rp size s=some es)(h2:Ro size x=some xs)(h3:xs.isEmpty=false)(h4:es.length+xs.length≤Bn)(h5:xs.all PV.ones=true):Be (.app size) [s,x]=some [some (.slice true size (es++xs)),some s.Ae]:=by
 show yO size s x=_;unfold yO;rw[h1,h2];dsimp only;rw[if_neg (by simp[h3]),if_pos ⟨h4,h5⟩]
theorem Gr{size:Nat}{es xs:List PV}{o:Bool}(h4:es.length+xs.length≤Bn)(h:xs.isEmpty=false∧xs.all PV.ones=true:=by simp):Be (.app size) [Bw size es,.slice o size xs]=some [some (Bw size (es++xs)),some (BG size es)]:=by
 have h2:Ro size (.slice o size xs)=some xs:=by simp[Ro]
 have h1:Rp size (Bw size es)=some es:=by cases es<;>simp[Bw,Rp]
 rw[jX h1 h2 h.1 h4 h.2,LW];cases es with
 |nil=>cases xs with
  |nil=>simp at h
  |cons=>rfl
 |cons=>rfl
theorem NA{size:Nat}{o':Bool}{es xs:List PV}(h4:es.length+xs.length≤Bn)(h3:xs.isEmpty=false)(h5:xs.all PV.ones=true):Be (.app size) [.slice true size es,.slice o' size xs]=some [some (.slice true size (es++xs)),some (.slice false size es)]:=
 jX (by simp[Rp]) (by simp[Ro]) h3 h4 h5
theorem tQ{zero:List PV}{parts:List (Nat×Nat)}{vs cs:List PV}(h:PL zero parts vs=some cs):Be (.build zero parts) vs=some [some (.agg cs)]:=by
 show(PL zero parts vs).map _=_;rw[h];rfl
theorem eO{off n:Nat}{c v r:PV}(h1:v.cells.length=n)(h2:v.okc=true)(h3:v.ones=true)(h:upd c off v.Ae=some r):Be (.stl off n) [c,v]=some [some r]:=by
 show(if _ then _ else _)=_
 rw[if_pos ⟨h1,h2,h3⟩,h];rfl
theorem uK{c x:PV}(h5:c.cells.length=5)(h:x.cells.length=5)(hc:∃cs,c=.agg cs)(hx:∃xs,x=.agg xs):upd c 0 x=some x:=by
 obtain⟨cs,rfl⟩:=hc;obtain⟨xs,rfl⟩:=hx;simp only[PV.cells] at h h5;show(if _ then _ else _)=_
 rw[if_pos (by simp[PV.cells,h,h5])]
 simp[PV.cells,h,h5]
theorem iK{c:PV}(T:Tr)(h5:c.cells.length=5)(hc:∃cs,c=.agg cs):Be (.stl 0 5) [c,T.pv]=some [some T.pv]:=
 eO T.Nh T.fD T.Yx (by rw[T.F9];exact uK h5 T.Nh hc ⟨_,T.H7⟩)
theorem WI(a b c d e:PV)(T:Tr):Be (.stl 0 5) [.agg [a,b,c,d,e],T.pv]=some [some T.pv]:=iK T rfl ⟨_,rfl⟩
theorem He(U T:Tr):Be (.stl 0 5) [U.pv,T.pv]=some [some T.pv]:=iK T U.Nh ⟨_,U.H7⟩
section
variable{x y:Int}
theorem AQ(k:IntKind)(h:x<y):Be (.bin .lss 0) [.int k x,.int k y]=some [some (.bool true)]:=Hz (e:=decide (x<y)) (decide_eq_true h) (by cases k<;>rfl)
theorem BN(k:IntKind)(h:¬x<y):Be (.bin .lss 0) [.int k x,.int k y]=some [some (.bool false)]:=Hz (e:=decide (x<y)) (decide_eq_false h) (by cases k<;>rfl)
theorem QG(k:IntKind)(h:x≤y):Be (.bin .leq 0) [.int k x,.int k y]=some [some (.bool true)]:=Hz (e:=decide (x≤y)) (decide_eq_true h) (by cases k<;>rfl)
theorem QH(k:IntKind)(h:¬x≤y):Be (.bin .leq 0) [.int k x,.int k y]=some [some (.bool false)]:=Hz (e:=decide (x≤y)) (decide_eq_false h) (by cases k<;>rfl)
theorem CX(k:IntKind)(h:x>y):Be (.bin .gtr 0) [.int k x,.int k y]=some [some (.bool true)]:=Hz (e:=decide (x>y)) (decide_eq_true h) (by cases k<;>rfl)
theorem DI(k:IntKind)(h:¬x>y):Be (.bin .gtr 0) [.int k x,.int k y]=some [some (.bool false)]:=Hz (e:=decide (x>y)) (decide_eq_false h) (by cases k<;>rfl)
theorem KZ(k:IntKind)(h:x≥y):Be (.bin .geq 0) [.int k x,.int k y]=some [some (.bool true)]:=Hz (e:=decide (x≥y)) (decide_eq_true h) (by cases k<;>rfl)
theorem LQ(k:IntKind)(h:¬x≥y):Be (.bin .geq 0) [.int k x,.int k y]=some [some (.bool false)]:=Hz (e:=decide (x≥y)) (decide_eq_false h) (by cases k<;>rfl)
theorem BJ(k:IntKind)(h:x=y):Be (.bin .eql 0) [.int k x,.int k y]=some [some (.bool true)]:=Hz (e:=(x==y)) (Ws h) (by cases k<;>rfl)
theorem AX(k:IntKind)(h:x≠y):Be (.bin .eql 0) [.int k x,.int k y]=some [some (.bool false)]:=Hz (e:=(x==y)) (Wq h) (by cases k<;>rfl)
theorem DU(k:IntKind)(h:x≠y):Be (.bin .neq 0) [.int k x,.int k y]=some [some (.bool true)]:=Hz (e:=(x != y)) (mi h) (by cases k<;>rfl)
theorem DF(k:IntKind)(h:x=y):Be (.bin .neq 0) [.int k x,.int k y]=some [some (.bool false)]:=Hz (e:=(x != y)) (mo h) (by cases k<;>rfl)
end
section
variable{x y:List UInt8}
theorem Hr(h:x=y):Be (.bin .eql 0) [.str x,.str y]=some [some (.bool true)]:=Hz (e:=(x==y)) (Ws h) rfl
theorem Ip(h:x≠y):Be (.bin .eql 0) [.str x,.str y]=some [some (.bool false)]:=Hz (e:=(x==y)) (Wq h) rfl
theorem oO(h:x≠y):Be (.bin .neq 0) [.str x,.str y]=some [some (.bool true)]:=Hz (e:=(!(x==y))) (fQ h) rfl
theorem Oo(h:x=y):Be (.bin .neq 0) [.str x,.str y]=some [some (.bool false)]:=Hz (e:=(!(x==y))) (fT h) rfl
end
theorem Gs(ff:FF)(t:Nat)(n:Option Nat)(rs:List (Nat×Option Nat)):Gm ff ((t,n)::rs)=(match EK ff t,Gm ff rs with | some v,some vs=>if KE v n then some (v.Ae::vs) else(LD v n).map fun r=>r::vs | _,_=>none):=rfl
theorem wD(ff:FF):Gm ff []=some []:=rfl
theorem AWK(T:Tr):KE T.pv (some 5)=true:=by rw[Tr.H7];obtain⟨k,t,a,e,n,ks⟩:=T;cases n<;>rfl
theorem ok_none(v:PV):KE v none=v.free:=rfl
theorem ig(cs:List PV):(PV.agg cs).Ae=.agg (cs.map PV.Cc):=rfl
theorem qf(k:IntKind)(x:Int):(PV.int k x).Cc=.int k x:=rfl
theorem qb(x:List UInt8):(PV.str x).Cc=.str x:=rfl
theorem kR(x:Bool):(PV.bool x).Cc=.bool x:=rfl
theorem kQ:PV.nils.Cc=.nils:=rfl
theorem fH(o:Bool)(s:Nat)(x:List PV):(PV.slice o s x).Cc=.slice false s x:=rfl
theorem bC(size:Nat)(es:List PV):(Bw size es).Cc=BG size es:=by cases es<;>rfl
theorem kT(size:Nat)(es:List PV):(BG size es).Cc=BG size es:=by cases es<;>rfl
theorem um(cs:List PV):(PV.agg cs).free=true:=rfl
theorem uo(cs:List PV):(PV.agg cs).flat=true:=rfl
theorem WB(cs:List PV):(PV.tuple cs).Ae=.tuple cs:=rfl
theorem eu(cs:List PV):(PV.tuple cs).flat=cs.all PV.JG:=by simp[PV.flat]
theorem d9(cs:List PV):(PV.tuple cs).free=true:=rfl
theorem lN(k:IntKind)(x:Int):(PV.int k x).JG=true:=rfl
theorem lM(x:List UInt8):(PV.str x).JG=true:=rfl
theorem gI(x:Bool):(PV.bool x).JG=true:=rfl
theorem sN(T:Tr):T.pv.JG=true:=by rw[Tr.H7];rfl
theorem dn(o:Bool)(s:Nat)(x:List PV):(PV.slice o s x).JG=true:=rfl
theorem gH:PV.nils.JG=true:=rfl
theorem OH(size:Nat)(es:List PV):(BG size es).JG=true:=by cases es<;>rfl
theorem mf(cs:List PV):(PV.agg cs).cells=cs:=rfl
theorem qx(cs:List PV):(PV.agg cs).ones=cs.all PV.one:=rfl
theorem AwD(T:Tr):T.kp.one=true:=by obtain⟨k,t,a,e,n,ks⟩:=T;cases n<;>rfl
theorem xJ(T:Tr):T.pv.ones=true:=T.Yx
theorem tL(T:Tr):T.pv.cells.length=5:=T.Nh
theorem qo(x:List UInt8):(PV.str x).ones=true:=rfl
theorem qw(k:IntKind)(x:Int):(PV.int k x).ones=true:=rfl
theorem xK(x:List UInt8):(PV.str x).one=true:=rfl
theorem xL(k:IntKind)(x:Int):(PV.int k x).one=true:=rfl
theorem AzS(T:Tr):T.pv.Gi=false:=by rw[Tr.H7];rfl
theorem j6(T:Tr):T.pv.Ae=T.pv:=T.F9
theorem uO(T:Tr):T.pv.flat=true:=T.RB
theorem uN(T:Tr):T.pv.free=true:=T.Ik
end
attribute [simp] Qt xV Pw xW LW KM UE NC ND dU j6 uO uN AWK ok_none ig qf qb kR kQ fH bC kT um uo WB eu d9
 lN lM gI sN dn gH OH mf qx AwD xJ tL AzS wD qo qw xK xL
theorem oC{f:FuncId}{xs:List PV}{r:PV}{s:Sto}(h:E f xs [] r s)(hs:(xs.all PV.free&&xs.all PV.flat)=true∧xs.map PV.Ae=xs∧r.flat=true∧r.Ae=r:=by first | exact⟨rfl,rfl,rfl,rfl⟩ | simp):Bh pur run (.c f) xs [] [some r] []:=Fy h hs.2.1 hs.1 hs.2.2.1 hs.2.2.2
theorem oCS(σ:Sto){f:FuncId}{xs:List PV}{r:PV}{s:Sto}(h:E f xs [] r s)(hs:(xs.all PV.free&&xs.all PV.flat)=true∧xs.map PV.Ae=xs∧r.flat=true∧r.Ae=r:=by first | exact⟨rfl,rfl,rfl,rfl⟩ | simp):Bh pur run (.c f) xs σ [some r] σ:=Fy h hs.2.1 hs.1 hs.2.2.1 hs.2.2.2
end
end Go.Abs.Z

namespace Go.Abs.Z
open Go.Proofs Go.RowKit
noncomputable def BU(n:Nat):Caller:=fun f args σ=>match args,σ with
 |[],[]=>if f=5 then some (.bool true,[]) else run n f [] []
 |args,σ=>run n f args σ
theorem lH:∀x:Option (PV×Sto),gz x=true→∃s,x=some (.bool true,s)
 |some (.bool true,s),_=>⟨s,rfl⟩
theorem tY:∃s,AzO 200 5 [] []=some (.bool true,s):=lH _ ib
theorem dS{P:Program}{f:FuncId}{args:List PV}{r:PV}{s:Sto}(h:K3 P f args [] r s)(hr:∀(I:Imm) (bl:Bl) (w:World) (v:Value),Bz I bl w v r→∀(I':Imm) (bl':Bl) (w':World),Bz I' bl' w' v r):K3 P f args [] r []:=by
 refine⟨h.1,fun n vs w G K ha hp=>(h.2 n vs w G K ha hp).mono ?_⟩
 rintro e w' ⟨v,G',rfl,hv,ha'⟩
 have hbl:G.bl.l=[]:=Aw.1 hp.len;refine⟨v,⟨G'.I,G'.ω,Bl.nil⟩,rfl,hr _ _ _ _ hv _ _ _,⟨ha'.keep,ha'.same,ha'.sub,ha'.new,ha'.lt,ha'.own,ha'.grow,⟨?_,fun id g a h=>?_⟩,ha'.os,ha'.tape,ha'.output,fun id cs h=>by simp at h,rfl,fun id g a h=>by cases h⟩⟩
 ·rw[hbl];exact List.prefix_refl _
 ·have:=hp.abl id g a h;simp at this
set_option maxRecDepth 100000 in
theorem eX(n:Nat):Ig Tryz.prog (BU n):=by
 intro f args σ r σ' hown h;unfold BU at h
 split at h
 ·split at h
  ·rename_i hf;subst hf;cases h;obtain⟨s,hs⟩:=tY;refine dS (eU 200 5 [] [] _ s hown hs) fun I bl w v hv I' bl' w'=>?_
   have:=hv.Ic;subst this;exact .one (.inl (.bool true))
  ·exact Qg n f [] [] r σ' hown h
 ·exact Qg n f _ _ r σ' hown h
theorem AZW(n:Nat):BU n 5 [] []=some (.bool true,[]):=rfl
def iA(af:Bb)(args:List PV)(σ:Sto)(r:PV)(σ':Sto):Prop:=∃N,∀n,N≤n→J8 pur (BU n) n af args σ=some (r,σ')
theorem o5{af:Bb}{args:List PV}{σ σ':Sto}{r:PV}(l:List Stp)(h:runT pur BU af args σ (Mk l)=some (r,σ',qOf l True):=by kernel_rfl):iA af args σ r σ':=by
 have hq:=Ov l trivial
 revert hq h
 generalize qOf l True=q;generalize Mk l=tp;intro h hq;unfold runT at h;cases hb:(Nat.beq args.length af.nargs&&Nat.ble args.length af.ntmps) with
 |false=>rw[hb] at h;cases h
 |true=>
  rw[hb] at h;cases hx:HZ pur BU af.code (Le args 0) σ tp True with
  |none=>rw[hx] at h;cases h
  |some o=>
   rw[hx] at h;obtain⟨_,hs⟩:=Gj af.code hx;obtain⟨e,f1,s1,t1,q1⟩:=o;dsimp only[cond_true] at h hs
   have fin:∀{e},e=.normal∨e=.ret→M7 pur BU af.code (Le args 0) σ e f1 s1→
     (Option.rec (motive:=fun _=>Option (PV×Sto×Prop)) none (fun vs=>Option.rec (motive:=fun _=>Option (PV×Sto×Prop)) none (fun r=>some (r,s1,q1)) (DL vs)) (Gm f1 af.results))=some (r,σ',q)→iA af args σ r σ':=by
    intro e he hc hh;cases hv:Gm f1 af.results with
    |none=>rw[hv] at hh;cases hh
    |some vs=>
     rw[hv] at hh;dsimp only at hh;cases hp:DL vs with
     |none=>rw[hp] at hh;cases hh
     |some p=>
      rw[hp] at hh;cases hh;obtain⟨N,H⟩:=hc;refine⟨N,fun n hn=>?_⟩
      obtain⟨ff1,a1,a2⟩:=H n (by omega) _ (Sub.refl _)
      unfold J8;rw[hb,a1];have hv':=O4 a2 _ _ hv;rcases he with rfl | rfl
      ·dsimp only[cond_true];rw[hv'];simp[hp]
      ·dsimp only[cond_true];rw[hv'];simp[hp]
   have hq':∀{x},S9 e (Option.rec (motive:=fun _=>Option (PV×Sto×Prop)) none (fun vs=>Option.rec (motive:=fun _=>Option (PV×Sto×Prop)) none (fun r=>some (r,s1,q1)) (DL vs)) (Gm f1 af.results))=some x→x.2.2=q→q1:=by
    intro x hx hxq;cases e with
    |exit i=>cases hx
    |normal=>
     cases hv:Gm f1 af.results with
     |none=>simp only[S9,hv] at hx;cases hx
     |some vs=>
      simp only[S9,hv] at hx;cases hp:DL vs with
      |none=>rw[hp] at hx;cases hx
      |some p=>rw[hp] at hx;cases hx;exact(show q1=q from hxq)▸hq
    |ret=>
     cases hv:Gm f1 af.results with
     |none=>simp only[S9,hv] at hx;cases hx
     |some vs=>
      simp only[S9,hv] at hx;cases hp:DL vs with
      |none=>rw[hp] at hx;cases hx
      |some p=>rw[hp] at hx;cases hx;exact(show q1=q from hxq)▸hq
   have h1:=hq' h rfl;cases e with
   |exit i=>cases h
   |normal=>exact fin (.inl rfl) (hs h1) h
   |ret=>exact fin (.inr rfl) (hs h1) h
theorem evA{f:FuncId}{x:PV}{xs:List PV}{r:PV}{s:Sto}(h:E f (x::xs) [] r s):Ev BU f (x::xs) [] r s:=by
 obtain⟨N,H⟩:=h;exact⟨N,fun n hn=>H n hn⟩
theorem AwX:Ev BU 5 [] [] (.bool true) []:=⟨0,fun n _=>AZW n⟩
theorem PA{k:PK}{vs:List PV}{rs:List (Option PV)}(h:Be k vs=some rs):Bh pur BU (.p k) vs [] rs []:=FV h
theorem QA{k:RK}{vs:List PV}{rs:List (Option PV)}(h:Fq k vs []=some rs):Bh pur BU (.r k) vs [] rs []:=AwB h
theorem AwL{f:FuncId}{af:Bb}{args:List PV}{σ:Sto}(hok:yT f af)(ha:∀p∈args,p.Ae=p)(h:iA af args [] (.bool true) σ):K3 Tryz.prog f args [] (.bool true) []:=by
 obtain⟨fn,fi,h1,h2,h3,h4⟩:=hok;obtain⟨N,H⟩:=h;refine dS (di mixed h1 h2 h3 (eX N) ha (Sw h4 (H N (Ag _)))) fun I bl w v hv I' bl' w'=>?_
 have:=hv.Ic;subst this;exact .one (.inl (.bool true))
end Go.Abs.Z
