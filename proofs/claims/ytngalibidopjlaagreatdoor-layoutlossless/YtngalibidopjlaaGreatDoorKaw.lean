/- A part of the proof: G1 G0 G2 P9. -/
import Derived.Test.YtngalibidopjlaaGreatDoorKag
import Derived.Test.YtngalibidopjlaaGreatDoorKaq
import Derived.KernelRfl
import Derived.Test.YtngalibidopjlaaGreatDoorKav

set_option linter.unusedVariables false
set_option linter.unusedSimpArgs false
namespace Go.Abs
open Go.RowKit
def Sub(a b:FF):Prop:=∀t v,getK a t=some v→getK b t=some v
theorem Sub.refl(a:FF):Sub a a:=fun _ _ h=>h
theorem Sub.trans{a b c:FF}(h:Sub a b)(k:Sub b c):Sub a c:=fun t v x=>k t v (h t v x)
noncomputable def pickF(ls:List Nat)(ff:FF):FF:=List.rec (motive:=fun _=>FF) [] (fun t _ ih=>(t,getK ff t)::ih) ls
theorem AwJ:∀(ls:List Nat) (ff:FF),Sub (pickF ls ff) ff
 |[],_,_,_,h=>by cases h
 |s::ls,ff,t,v,h=>by
  have h':cond (Nat.beq s t) (getK ff s) (getK (pickF ls ff) t)=some v:=h;cases hb:Nat.beq s t with
  |true=>rw[hb] at h';rw[←Nat.eq_of_beq_eq_true hb];exact h'
  |false=>rw[hb] at h';exact AwJ ls ff t v h'
section
variable(pur:FuncId→Bool)(R:Nat→Caller)
def OpEv(k:AK)(vs:List PV)(σ:Sto)(rs:List (Option PV))(σ':Sto):Prop:=∃N,∀n,N≤n→sem pur (R n) k vs σ=some (rs,σ')
def AXA(c:ACode)(ff:FF)(σ:Sto)(e:AExit)(ff':FF)(σ':Sto):Prop:=
 ∃N,∀n,N≤n→∀ff0,Sub ff ff0→∃ff1,arunK pur (R n) n c ff0 σ=some (e,ff1,σ')∧Sub ff' ff1
def AjF(keep:List Bool)(c:ACode)(ff:FF)(σ:Sto)(e:AExit)(ff':FF)(σ':Sto):Prop:=
 ∃N,∀n,N≤n→∀m,N≤m→∀ff0,Sub ff ff0→∃ff1,iterK keep (arunK pur (R n) n c) m ff0 σ=some (e,ff1,σ')∧Sub ff' ff1
def Ev(f:FuncId)(args:List PV)(σ:Sto)(r:PV)(σ':Sto):Prop:=∃N,∀n,N≤n→R n f args σ=some (r,σ')
inductive Ans where
 |res (rs:List (Option PV)) (σ:Sto)
 |grd (d:Bool)
 |grdr (rs:List (Option PV)) (σ:Sto)
 |br (b:Bool)
 |loop (ls:List Nat) (e:AExit) (ff:FF) (σ:Sto)
abbrev Tape:=List (Nat×Ans)
structure TO where
 e:AExit
 ff:FF
 σ:Sto
 tp:Tape
 q:Prop
abbrev TX:=Option TO
noncomputable section
def AwN:Caller:=fun _ _ _=>none
def finT(d:Option Nat)(ex clr:List Nat)(ff:FF)(rs:List (Option PV))(σ:Sto):RFS:=
 cond (Nat.beq rs.length (d.toList.length+ex.length)) (some (putK (d.toList++ex++clr) (rs++clr.map fun _=>none) ff,σ)) (cond (d.isNone&&ex.isEmpty&&clr.isEmpty) (some (ff,σ)) none)
def toTX(tp:Tape)(q:Prop)(r:RFS):TX:=Option.rec (motive:=fun _=>TX) none (fun r=>some ⟨.normal,r.1,r.2,tp,q⟩) r
def tSpec(o:AOp)(ff:FF)(σ:Sto)(tp:Tape)(q:Prop)(a:Ans):TX:=
 Ans.rec (motive:=fun _=>TX)
  (fun rs σ1=>Option.rec (motive:=fun _=>TX) (Option.rec (motive:=fun _=>TX) none (fun vs=>toTX tp (OpEv pur R o.k vs σ rs σ1∧q) (finT o.dst o.ex o.clr ff rs σ1)) (evalK ff o.args)) (fun _=>none) o.guard)
  (fun d=>Option.rec (motive:=fun _=>TX) none (fun g=>toTX tp (AzB (getK ff g.1) g.2=some d∧q) (cond d (runK' pur AwN o ff σ) (cond (o.ex.isEmpty&&o.clr.isEmpty) (some (putK o.wr [some AkN] ff,σ)) none))) o.guard)
  (fun rs σ1=>Option.rec (motive:=fun _=>TX) none (fun g=>Option.rec (motive:=fun _=>TX) none (fun vs=>toTX tp (OpEv pur R o.k vs σ rs σ1∧AzB (getK ff g.1) g.2=some true∧q) (finT o.dst o.ex o.clr ff rs σ1)) (evalK ff o.args)) o.guard)
  (fun _=>none) (fun _ _ _ _=>none) a
def tCase{α:Type}(tp:Tape)(plain:Tape→α)(spec:Tape→Ans→α):α:=
 List.rec (motive:=fun _=>α) (plain []) (fun x tp _=>Nat.rec (motive:=fun _=>α) (spec tp x.2) (fun n _=>plain ((n,x.2)::tp)) x.1) tp
def tOp(o:AOp)(ff:FF)(σ:Sto)(tp:Tape)(q:Prop):TX:=
 tCase tp (fun tp=>toTX tp q (execK pur AwN o ff σ)) (fun tp a=>tSpec pur R o ff σ tp q a)
def bindT(r:TX)(k:FF→Sto→Tape→Prop→TX):TX:=
 Option.rec (motive:=fun _=>TX) none (fun r=>cond (AxL r.e) (k r.ff r.σ r.tp r.q) (some r)) r
def tOps(os:List AOp):FF→Sto→Tape→Prop→TX:=
 List.rec (motive:=fun _=>FF→Sto→Tape→Prop→TX) (fun ff σ tp q=>some ⟨.normal,ff,σ,tp,q⟩) (fun o _ ih ff σ tp q=>bindT (tOp pur R o ff σ tp q) ih) os
def tCond(c:AArg)(x y:FF→Sto→Tape→Prop→TX)(ff:FF)(σ:Sto)(tp:Tape)(q:Prop):TX:=
 tCase tp (fun tp=>match evalK ff [c] with
  |some [.bool b]=>cond b (x ff σ tp q) (y ff σ tp q)
  |_=>none)
  (fun tp a=>Ans.rec (motive:=fun _=>TX) (fun _ _=>none) (fun _=>none) (fun _ _=>none) (fun b=>cond b (x ff σ tp (evalK ff [c]=some [.bool b]∧q)) (y ff σ tp (evalK ff [c]=some [.bool b]∧q))) (fun _ _ _ _=>none) a)
def tBlock(id:Nat)(r:TX):TX:=
 Option.rec (motive:=fun _=>TX) none (fun r=>AExit.rec (motive:=fun _=>TX) (some r) (fun i=>cond (Nat.beq i id) (some ⟨.normal,r.ff,r.σ,r.tp,r.q⟩) (some r)) (some r) r.e) r
def tLoop(keep:List Bool)(c:ACode)(ff:FF)(σ:Sto)(tp:Tape)(q:Prop):TX:=
 tCase tp (fun _=>none) (fun tp a=>Ans.rec (motive:=fun _=>TX) (fun _ _=>none) (fun _=>none) (fun _ _=>none) (fun _=>none)
  (fun ls e ff1 σ1=>some ⟨e,ff1,σ1,tp,AjF pur R keep c (pickF ls (AqY ff keep 0)) σ e ff1 σ1∧q⟩) a)
def tRun(c:ACode):FF→Sto→Tape→Prop→TX:=
 ACode.rec (motive:=fun _=>FF→Sto→Tape→Prop→TX)
  (fun ff σ tp q=>some ⟨.normal,ff,σ,tp,q⟩)
  (fun ops=>tOps pur R ops)
  (fun _ _ iha ihb ff σ tp q=>bindT (iha ff σ tp q) ihb)
  (fun c _ _ iht ihe=>tCond c iht ihe)
  (fun id _ ih ff σ tp q=>tBlock id (ih ff σ tp q))
  (fun keep c _=>tLoop pur R keep c)
  (fun id ff σ tp q=>some ⟨.exit id,ff,σ,tp,q⟩)
  (fun ff σ tp q=>some ⟨.ret,ff,σ,tp,q⟩) c
end
end
section
variable{pur:FuncId→Bool}{R:Nat→Caller}{ff ff' ff0:FF}{σ σ':Sto}{tp tp':Tape}{q q':Prop}{e:AExit}
theorem AjE(h:Sub ff ff0):∀(zs:List AArg) (vs:List PV),evalK ff zs=some vs→evalK ff0 zs=some vs
 |[],vs,he=>he
 |.slot t::zs,vs,he=>by
  have he':(Option.rec (motive:=fun _=>Option (List PV)) none (fun v=>Option.rec (motive:=fun _=>Option (List PV)) none (fun vs=>some (v::vs)) (evalK ff zs)) (getK ff t))=some vs:=he
  show(Option.rec (motive:=fun _=>Option (List PV)) none (fun v=>Option.rec (motive:=fun _=>Option (List PV)) none (fun vs=>some (v::vs)) (evalK ff0 zs)) (getK ff0 t))=some vs
  cases hg:getK ff t with
  |none=>rw[hg] at he';cases he'
  |some v=>
   rw[hg] at he';cases hr:evalK ff zs with
   |none=>rw[hr] at he';cases he'
   |some ws=>
    rw[hr] at he';rw[h t v hg,AjE h zs ws hr];exact he'
 |.val v::zs,vs,he=>by
  have he':(Option.rec (motive:=fun _=>Option (List PV)) none (fun vs=>some (v::vs)) (evalK ff zs))=some vs:=he
  show(Option.rec (motive:=fun _=>Option (List PV)) none (fun vs=>some (v::vs)) (evalK ff0 zs))=some vs
  cases hr:evalK ff zs with
  |none=>rw[hr] at he';cases he'
  |some ws=>
   rw[hr] at he';rw[AjE h zs ws hr];exact he'
theorem putK_sub:∀(ts:List Nat) (vs:List (Option PV)) {ff ff0:FF},Sub ff ff0→Sub (putK ts vs ff) (putK ts vs ff0)
 |[],vs,ff,ff0,h=>by cases vs<;>exact h
 |t::ts,[],ff,ff0,h=>h
 |t::ts,v::vs,ff,ff0,h=>by
  refine putK_sub ts vs (ff:=(t,v)::ff) (ff0:=(t,v)::ff0) fun s x hx=>?_
  rw[Av0] at hx ⊢;cases hb:Nat.beq t s with
  |true=>simp only[hb,cond_true] at hx ⊢;exact hx
  |false=>simp only[hb,cond_false] at hx ⊢;exact h s x hx
theorem finT_sub{d:Option Nat}{ex clr:List Nat}{rs:List (Option PV)}(h:Sub ff ff0)(he:finT d ex clr ff rs σ=some (ff',σ')):∃ff1,finT d ex clr ff0 rs σ=some (ff1,σ')∧Sub ff' ff1:=by
 unfold finT at he ⊢;cases hb:Nat.beq rs.length (d.toList.length+ex.length) with
 |true=>rw[hb] at he;cases he;exact⟨_,rfl,putK_sub _ _ h⟩
 |false=>
  rw[hb] at he;cases hc:(d.isNone&&ex.isEmpty&&clr.isEmpty) with
  |true=>rw[hc] at he;cases he;exact⟨_,rfl,h⟩
  |false=>rw[hc] at he;cases he
theorem AJN{call:Caller}{k:AK}{vs:List PV}{x:List (Option PV)×Sto}(h:sem pur AwN k vs σ=some x):sem pur call k vs σ=some x:=by
 cases k with
 |p k=>exact h
 |r k=>exact h
 |c f=>
  simp only[sem,AwN] at h
  split at h<;>simp at h
 |w k=>
  simp only[sem] at h ⊢;unfold semW at h ⊢
  split at h<;>first
   |exact h
   |(simp only[AwN] at h;repeat' split at h;all_goals simp at h)
theorem AQF{call:Caller}{o:AOp}{vs:List PV}{rs:List (Option PV)}{σ1:Sto}(hv:evalK ff o.args=some vs)(hs:sem pur call o.k vs σ=some (rs,σ1)):runK' pur call o ff σ=finT o.dst o.ex o.clr ff rs σ1:=by
 unfold runK';rw[hv];dsimp only;rw[hs];rfl
theorem runK_inv{call:Caller}{o:AOp}(h:runK' pur call o ff σ=some (ff',σ')):∃vs rs σ1,evalK ff o.args=some vs∧sem pur call o.k vs σ=some (rs,σ1)∧finT o.dst o.ex o.clr ff rs σ1=some (ff',σ'):=by
 unfold runK' at h;cases hv:evalK ff o.args with
 |none=>rw[hv] at h;cases h
 |some vs=>
  rw[hv] at h;dsimp only at h;cases hs:sem pur call o.k vs σ with
  |none=>rw[hs] at h;cases h
  |some r=>
   rw[hs] at h;exact⟨vs,r.1,r.2,rfl,hs,h⟩
theorem runK_sub{call:Caller}{o:AOp}(h:Sub ff ff0)(he:runK' pur AwN o ff σ=some (ff',σ')):∃ff1,runK' pur call o ff0 σ=some (ff1,σ')∧Sub ff' ff1:=by
 obtain⟨vs,rs,σ1,h1,h2,h3⟩:=runK_inv he;rw[AQF (AjE h _ _ h1) (AJN h2)];exact finT_sub h h3
theorem AvS{g:Nat}{b d:Bool}(h:Sub ff ff0)(he:AzB (getK ff g) b=some d):AzB (getK ff0 g) b=some d:=by
 cases hg:getK ff g with
 |none=>rw[hg] at he;simp[AzB] at he
 |some v=>rw[h g v hg,←hg];exact he
theorem Az3{call:Caller}{o:AOp}{g:Nat×Bool}{d:Bool}(hg:o.guard=some g)(hw:AzB (getK ff g.1) g.2=some d):
  execK pur call o ff σ=cond d (runK' pur call o ff σ) (cond (o.ex.isEmpty&&o.clr.isEmpty) (some (putK o.wr [some AkN] ff,σ)) none):=by
 unfold execK;rw[hg];dsimp only;rw[hw]
theorem undef_sub{o:AOp}(h:Sub ff ff0)(he:cond (o.ex.isEmpty&&o.clr.isEmpty) (some (putK o.wr [some AkN] ff,σ)) none=some (ff',σ')):
  ∃ff1,cond (o.ex.isEmpty&&o.clr.isEmpty) (some (putK o.wr [some AkN] ff0,σ)) none=some (ff1,σ')∧Sub ff' ff1:=by
 cases hc:(o.ex.isEmpty&&o.clr.isEmpty) with
 |true=>rw[hc] at he;cases he;exact⟨_,rfl,putK_sub _ _ h⟩
 |false=>rw[hc] at he;cases he
theorem execK_sub{call:Caller}{o:AOp}(h:Sub ff ff0)(he:execK pur AwN o ff σ=some (ff',σ')):∃ff1,execK pur call o ff0 σ=some (ff1,σ')∧Sub ff' ff1:=by
 cases hg:o.guard with
 |none=>
  unfold execK at he ⊢;rw[hg] at he ⊢;exact runK_sub h he
 |some g=>
  cases hw:AzB (getK ff g.1) g.2 with
  |none=>
   unfold execK at he;rw[hg] at he;dsimp only at he;rw[hw] at he;cases he
  |some d=>
   rw[Az3 hg hw] at he;rw[Az3 hg (AvS h hw)];cases d with
   |true=>exact runK_sub h he
   |false=>exact undef_sub h he
theorem AQS{call:Caller}{o:AOp}(hg:o.guard=none):execK pur call o ff σ=runK' pur call o ff σ:=by
 unfold execK;rw[hg]
def OpT(pur:FuncId→Bool)(R:Nat→Caller)(o:AOp)(ff:FF)(σ:Sto)(ff':FF)(σ':Sto):Prop:=
 ∃N,∀n,N≤n→∀ff0,Sub ff ff0→∃ff1,execK pur (R n) o ff0 σ=some (ff1,σ')∧Sub ff' ff1
theorem AjG{r:RFS}{x:TO}(h:toTX tp q r=some x):∃ff' σ',r=some (ff',σ')∧x=⟨.normal,ff',σ',tp,q⟩:=by
 cases r with
 |none=>cases h
 |some r=>cases h;exact⟨r.1,r.2,rfl,rfl⟩
theorem tSpec_sound{o:AOp}{a:Ans}{x:TO}(h:tSpec pur R o ff σ tp q a=some x):x.e=.normal∧(x.q→q)∧(x.q→OpT pur R o ff σ x.ff x.σ):=by
 cases a with
 |br b=>cases h
 |loop ls e f s=>cases h
 |res rs σ1=>
  cases hg:o.guard with
  |some g=>simp only[tSpec,hg] at h;cases h
  |none=>
   simp only[tSpec,hg] at h;cases hv:evalK ff o.args with
   |none=>rw[hv] at h;cases h
   |some vs=>
    rw[hv] at h;obtain⟨ff',σ',h1,rfl⟩:=AjG h;refine⟨rfl,fun hq=>hq.2,fun hq=>?_⟩
    obtain⟨N,hN⟩:=hq.1;refine⟨N,fun n hn ff0 hs=>?_⟩
    rw[AQS hg,AQF (AjE hs _ _ hv) (hN n hn)];exact finT_sub hs h1
 |grd d=>
  cases hg:o.guard with
  |none=>simp only[tSpec,hg] at h;cases h
  |some g=>
   simp only[tSpec,hg] at h;obtain⟨ff',σ',h1,rfl⟩:=AjG h;refine⟨rfl,fun hq=>hq.2,fun hq=>⟨0,fun n _ ff0 hs=>?_⟩⟩
   rw[Az3 hg (AvS hs hq.1)];cases d with
   |true=>exact runK_sub hs h1
   |false=>exact undef_sub hs h1
 |grdr rs σ1=>
  cases hg:o.guard with
  |none=>simp only[tSpec,hg] at h;cases h
  |some g=>
   simp only[tSpec,hg] at h;cases hv:evalK ff o.args with
   |none=>rw[hv] at h;cases h
   |some vs=>
    rw[hv] at h;obtain⟨ff',σ',h1,rfl⟩:=AjG h;refine⟨rfl,fun hq=>hq.2.2,fun hq=>?_⟩
    obtain⟨N,hN⟩:=hq.1;refine⟨N,fun n hn ff0 hs=>?_⟩
    rw[Az3 hg (AvS hs hq.2.1),cond_true,AQF (AjE hs _ _ hv) (hN n hn)];exact finT_sub hs h1
theorem AkP{α:Type}{tp:Tape}{plain:Tape→α}{spec:Tape→Ans→α}(P:α→Prop)(h1:∀t,P (plain t))(h2:∀t a,P (spec t a)):P (tCase tp plain spec):=by
 cases tp with
 |nil=>exact h1 _
 |cons x tp=>
  obtain⟨n,a⟩:=x;cases n with
  |zero=>exact h2 _ _
  |succ n=>exact h1 _
theorem tOp_sound{o:AOp}:∀{x:TO},tOp pur R o ff σ tp q=some x→x.e=.normal∧(x.q→q)∧(x.q→OpT pur R o ff σ x.ff x.σ):=by
 unfold tOp;refine AkP (fun r=>∀{x:TO},r=some x→x.e=.normal∧(x.q→q)∧(x.q→OpT pur R o ff σ x.ff x.σ)) (fun t {x} h=>?_) (fun t a {x} h=>tSpec_sound h)
 obtain⟨ff',σ',h1,rfl⟩:=AjG h;exact⟨rfl,id,fun _=>⟨0,fun n _ ff0 hs=>execK_sub hs h1⟩⟩
theorem AQ2{r:TX}{k:FF→Sto→Tape→Prop→TX}{x:TO}(h:bindT r k=some x):∃y,r=some y∧((y.e=.normal∧k y.ff y.σ y.tp y.q=some x)∨(y.e≠.normal∧y=x)):=by
 cases r with
 |none=>cases h
 |some y=>
  refine⟨y,rfl,?_⟩
  have h':cond (AxL y.e) (k y.ff y.σ y.tp y.q) (some y)=some x:=h;obtain⟨e,f,s,t,q⟩:=y;cases e with
  |normal=>exact .inl ⟨rfl,h'⟩
  |exit i=>exact .inr ⟨by simp,Option.some.inj h'⟩
  |ret=>exact .inr ⟨by simp,Option.some.inj h'⟩
theorem opsK_cons(call:Caller)(o:AOp)(os:List AOp):opsK pur call (o::os) ff σ=Option.rec (motive:=fun _=>RX) none (fun r=>opsK pur call os r.1 r.2) (execK pur call o ff σ):=rfl
theorem AQA:∀(os:List AOp) {ff:FF} {σ:Sto} {tp:Tape} {q:Prop} {x:TO},tOps pur R os ff σ tp q=some x→(x.q→q)∧(x.q→AXA pur R (.region os) ff σ x.e x.ff x.σ)
 |[],ff,σ,tp,q,x,h=>by cases h;exact⟨id,fun _=>⟨0,fun n _ ff0 hs=>⟨ff0,rfl,hs⟩⟩⟩
 |o::os,ff,σ,tp,q,x,h=>by
  have h':bindT (tOp pur R o ff σ tp q) (tOps pur R os)=some x:=h;obtain⟨y,hy,hc⟩:=AQ2 h';obtain⟨e1,hq1,ho⟩:=tOp_sound hy;rcases hc with⟨_,hk⟩ | ⟨hne,_⟩
  ·obtain⟨hq2,hr⟩:=AQA os hk;refine⟨fun hx=>hq1 (hq2 hx),fun hx=>?_⟩
   obtain⟨N1,H1⟩:=ho (hq2 hx);obtain⟨N2,H2⟩:=hr hx;refine⟨max N1 N2,fun n hn ff0 hs=>?_⟩
   obtain⟨ff1,a1,a2⟩:=H1 n (by omega) ff0 hs
   obtain⟨ff2,b1,b2⟩:=H2 n (by omega) ff1 a2
   refine⟨ff2,?_,b2⟩
   show opsK pur (R n) (o::os) ff0 σ=_;rw[opsK_cons,a1];exact b1
  ·exact absurd e1 hne
theorem AxI:∀(c:ACode) {ff:FF} {σ:Sto} {tp:Tape} {q:Prop} {x:TO},tRun pur R c ff σ tp q=some x→(x.q→q)∧(x.q→AXA pur R c ff σ x.e x.ff x.σ):=by
 intro c
 induction c with
 |skip=>intro ff σ tp q x h;cases h;exact⟨id,fun _=>⟨0,fun n _ ff0 hs=>⟨ff0,rfl,hs⟩⟩⟩
 |region ops=>intro ff σ tp q x h;exact AQA ops h
 |exit i=>intro ff σ tp q x h;cases h;exact⟨id,fun _=>⟨0,fun n _ ff0 hs=>⟨ff0,rfl,hs⟩⟩⟩
 |ret=>intro ff σ tp q x h;cases h;exact⟨id,fun _=>⟨0,fun n _ ff0 hs=>⟨ff0,rfl,hs⟩⟩⟩
 |seq a b iha ihb=>
  intro ff σ tp q x h;have h':bindT (tRun pur R a ff σ tp q) (tRun pur R b)=some x:=h;obtain⟨y,hy,hc⟩:=AQ2 h';obtain⟨hq1,ho⟩:=iha hy;have hseq:∀n ff0,arunK pur (R n) n (.seq a b) ff0 σ=Option.rec (motive:=fun _=>RX) none (fun r=>cond (AxL r.1) (arunK pur (R n) n b r.2.1 r.2.2) (some r)) (arunK pur (R n) n a ff0 σ):=fun _ _=>rfl
  rcases hc with⟨he,hk⟩ | ⟨hne,rfl⟩
  ·obtain⟨hq2,hr⟩:=ihb hk;refine⟨fun hx=>hq1 (hq2 hx),fun hx=>?_⟩
   obtain⟨N1,H1⟩:=ho (hq2 hx);obtain⟨N2,H2⟩:=hr hx;rw[he] at H1;refine⟨max N1 N2,fun n hn ff0 hs=>?_⟩
   obtain⟨ff1,a1,a2⟩:=H1 n (by omega) ff0 hs
   obtain⟨ff2,b1,b2⟩:=H2 n (by omega) ff1 a2
   refine⟨ff2,?_,b2⟩
   rw[hseq,a1];exact b1
  ·refine⟨hq1,fun hx=>?_⟩
   obtain⟨N1,H1⟩:=ho hx;refine⟨N1,fun n hn ff0 hs=>?_⟩
   obtain⟨ff1,a1,a2⟩:=H1 n hn ff0 hs;refine⟨ff1,?_,a2⟩
   rw[hseq,a1];obtain⟨e,f,s,t,qq⟩:=y;cases e with
   |normal=>exact absurd rfl hne
   |exit i=>rfl
   |ret=>rfl
 |cond c a b iha ihb=>
  intro ff σ tp q x h;have hcond:∀n ff0,arunK pur (R n) n (.cond c a b) ff0 σ=condK (evalK ff0 [c]) (arunK pur (R n) n a ff0 σ) (arunK pur (R n) n b ff0 σ):=fun _ _=>rfl
  have key:∀(bb:Bool) (t:Tape) (qq:Prop),evalK ff [c]=some [.bool bb]→cond bb (tRun pur R a ff σ t qq) (tRun pur R b ff σ t qq)=some x→(x.q→qq)∧(x.q→AXA pur R (.cond c a b) ff σ x.e x.ff x.σ):=by
   intro bb t qq hv hx;cases bb with
   |true=>
    obtain⟨h1,h2⟩:=iha hx;refine⟨h1,fun hq=>?_⟩
    obtain⟨N,H⟩:=h2 hq;refine⟨N,fun n hn ff0 hs=>?_⟩
    rw[hcond,AjE hs _ _ hv];exact H n hn ff0 hs
   |false=>
    obtain⟨h1,h2⟩:=ihb hx;refine⟨h1,fun hq=>?_⟩
    obtain⟨N,H⟩:=h2 hq;refine⟨N,fun n hn ff0 hs=>?_⟩
    rw[hcond,AjE hs _ _ hv];exact H n hn ff0 hs
  have h':tCond c (tRun pur R a) (tRun pur R b) ff σ tp q=some x:=h
  revert h'
  unfold tCond;refine AkP (fun r=>r=some x→(x.q→q)∧(x.q→AXA pur R (.cond c a b) ff σ x.e x.ff x.σ)) (fun t hx=>?_) (fun t an hx=>?_)
  ·split at hx
   ·rename_i bb hv;exact key bb t q hv hx
   ·cases hx
  ·cases an with
   |br bb=>
    have hx':cond bb (tRun pur R a ff σ t (evalK ff [c]=some [.bool bb]∧q)) (tRun pur R b ff σ t (evalK ff [c]=some [.bool bb]∧q))=some x:=hx
    have hq:x.q→(evalK ff [c]=some [.bool bb]∧q):=by
     cases bb with
     |true=>exact(iha hx').1
     |false=>exact(ihb hx').1
    exact⟨fun hq'=>(hq hq').2,fun hq'=>(key bb t _ (hq hq').1 hx').2 hq'⟩
   |_=>cases hx
 |block id c ih=>
  intro ff σ tp q x h;have h':tBlock id (tRun pur R c ff σ tp q)=some x:=h;have hb:∀n ff0,arunK pur (R n) n (.block id c) ff0 σ=Option.rec (motive:=fun _=>RX) none (fun r=>AExit.rec (motive:=fun _=>RX) (some r) (fun i=>cond (Nat.beq i id) (some (.normal,r.2)) (some r)) (some r) r.1) (arunK pur (R n) n c ff0 σ):=fun _ _=>rfl
  cases hr:tRun pur R c ff σ tp q with
  |none=>rw[hr] at h';cases h'
  |some y=>
   rw[hr] at h';obtain⟨hq1,ho⟩:=ih hr;obtain⟨e,f,s,t,qq⟩:=y;cases e with
   |normal=>
    cases h';refine⟨hq1,fun hq=>?_⟩
    obtain⟨N,H⟩:=ho hq;refine⟨N,fun n hn ff0 hs=>?_⟩
    obtain⟨ff1,a1,a2⟩:=H n hn ff0 hs;exact⟨ff1,by rw[hb,a1],a2⟩
   |ret=>
    cases h';refine⟨hq1,fun hq=>?_⟩
    obtain⟨N,H⟩:=ho hq;refine⟨N,fun n hn ff0 hs=>?_⟩
    obtain⟨ff1,a1,a2⟩:=H n hn ff0 hs;exact⟨ff1,by rw[hb,a1],a2⟩
   |exit i=>
    have h'':cond (Nat.beq i id) (some (⟨.normal,f,s,t,qq⟩:TO)) (some ⟨.exit i,f,s,t,qq⟩)=some x:=h';cases hi:Nat.beq i id with
    |true=>
     rw[hi] at h'';cases h'';refine⟨hq1,fun hq=>?_⟩
     obtain⟨N,H⟩:=ho hq;refine⟨N,fun n hn ff0 hs=>?_⟩
     obtain⟨ff1,a1,a2⟩:=H n hn ff0 hs;exact⟨ff1,by rw[hb,a1];dsimp only;rw[hi];rfl,a2⟩
    |false=>
     rw[hi] at h'';cases h'';refine⟨hq1,fun hq=>?_⟩
     obtain⟨N,H⟩:=ho hq;refine⟨N,fun n hn ff0 hs=>?_⟩
     obtain⟨ff1,a1,a2⟩:=H n hn ff0 hs;exact⟨ff1,by rw[hb,a1];dsimp only;rw[hi];rfl,a2⟩
 |loop keep c _=>
  intro ff σ tp q x h;have h':tLoop pur R keep c ff σ tp q=some x:=h
  revert h'
  unfold tLoop;refine AkP (fun r=>r=some x→(x.q→q)∧(x.q→AXA pur R (.loop keep c) ff σ x.e x.ff x.σ)) (fun t hx=>by cases hx) (fun t an hx=>?_)
  cases an with
  |loop ls e f s=>
   cases hx;refine⟨fun hq=>hq.2,fun hq=>?_⟩
   obtain⟨N,H⟩:=hq.1;refine⟨N,fun n hn ff0 hs=>?_⟩
   refine H n hn n hn (AqY ff0 keep 0) ((AwJ _ _).trans fun t v hv=>?_)
   exact mask_sub hs keep 0 t v hv
  |_=>cases hx
 where
 mask_sub {ff ff0:FF} (hs:Sub ff ff0):∀(keep:List Bool) (i:Nat),Sub (AqY ff keep i) (AqY ff0 keep i)
  |[],i,t,v,h=>by cases h
  |b::keep,i,t,v,h=>by
   cases b with
   |false=>exact mask_sub hs keep (i+1) t v h
   |true=>
    have h':cond (Nat.beq i t) (getK ff i) (getK (AqY ff keep (i+1)) t)=some v:=h;show cond (Nat.beq i t) (getK ff0 i) (getK (AqY ff0 keep (i+1)) t)=some v;cases hb:Nat.beq i t with
    |true=>rw[hb] at h';exact hs i v h'
    |false=>rw[hb] at h';exact mask_sub hs keep (i+1) t v h'
end
section
variable(pur:FuncId→Bool)(R:Nat→Caller)
noncomputable def outE(e:AExit)(x:Option (PV×Sto×Prop)):Option (PV×Sto×Prop):=AExit.rec (motive:=fun _=>Option (PV×Sto×Prop)) x (fun _=>none) x e
noncomputable def runT(fn:AFunc)(args:List PV)(σ:Sto)(tp:Tape):Option (PV×Sto×Prop):=
 cond (Nat.beq args.length fn.nargs&&Nat.ble args.length fn.ntmps)
  (Option.rec (motive:=fun _=>Option (PV×Sto×Prop)) none (fun o=>outE o.e (Option.rec (motive:=fun _=>Option (PV×Sto×Prop)) none (fun vs=>Option.rec (motive:=fun _=>Option (PV×Sto×Prop)) none (fun r=>some (r,o.σ,o.q)) (packR vs)) (resK o.ff fn.results))) (tRun pur R fn.code (initK args 0) σ tp True)) none
noncomputable def runTO(fn:AFunc)(args:List PV)(σ:Sto)(tp:Tape)(r:PV):Option (PV×Sto×Prop):=
 cond (Nat.beq args.length fn.nargs&&Nat.ble args.length fn.ntmps)
  (Option.rec (motive:=fun _=>Option (PV×Sto×Prop)) none (fun o=>outE o.e (some (r,o.σ,(resK o.ff fn.results).bind packR=some r∧o.q))) (tRun pur R fn.code (initK args 0) σ tp True)) none
noncomputable def nextT(keep:List Bool)(c:ACode)(ls:List Nat)(ff:FF)(σ:Sto)(tp:Tape):Option (FF×Sto×Prop):=
 Option.rec (motive:=fun _=>Option (FF×Sto×Prop)) none (fun o=>cond (AxL o.e) (some (pickF ls (AqY o.ff keep 0),o.σ,o.q)) none) (tRun pur R c ff σ tp True)
noncomputable def leaveT(c:ACode)(ls:List Nat)(ff:FF)(σ:Sto)(tp:Tape):Option (AExit×FF×Sto×Prop):=
 Option.rec (motive:=fun _=>Option (AExit×FF×Sto×Prop)) none (fun o=>cond (AxL o.e) none (some (o.e,pickF ls o.ff,o.σ,o.q))) (tRun pur R c ff σ tp True)
end
section
variable{pur:FuncId→Bool}{R:Nat→Caller}
theorem AXH{ff ff0:FF}(h:Sub ff ff0):∀(rs:List (Nat×Option Nat)) (vs:List PV),resK ff rs=some vs→resK ff0 rs=some vs
 |[],vs,hr=>hr
 |(t,n)::rs,vs,hr=>by
  have hr':(match getK ff t,resK ff rs with | some v,some vs=>if resOk v n then some (v.Aq0::vs) else(Aw9 v n).map fun r=>r::vs | _,_=>none)=some vs:=hr
  show(match getK ff0 t,resK ff0 rs with | some v,some vs=>if resOk v n then some (v.Aq0::vs) else(Aw9 v n).map fun r=>r::vs | _,_=>none)=some vs
  split at hr'
  ·rename_i v ws hg hw;rw[h t v hg,AXH h rs ws hw];exact hr'
  ·cases hr'
theorem fn_rule{f:FuncId}{af:AFunc}{args:List PV}{σ σ':Sto}{r:PV}{tp:Tape}{q:Prop}(hR:∀n,R (n+1) f args σ=AkS pur (R n) n af args σ)(hq:q)(h:runT pur R af args σ tp=some (r,σ',q)):Ev R f args σ r σ':=by
 unfold runT at h;cases hb:(Nat.beq args.length af.nargs&&Nat.ble args.length af.ntmps) with
 |false=>rw[hb] at h;cases h
 |true=>
  rw[hb] at h;cases hx:tRun pur R af.code (initK args 0) σ tp True with
  |none=>rw[hx] at h;cases h
  |some o=>
   rw[hx] at h;obtain⟨_,hs⟩:=AxI af.code hx;obtain⟨e,f1,s1,t1,q1⟩:=o;dsimp only[cond_true] at h hs
   have fin:∀{e},e=.normal∨e=.ret→AXA pur R af.code (initK args 0) σ e f1 s1→
     (Option.rec (motive:=fun _=>Option (PV×Sto×Prop)) none (fun vs=>Option.rec (motive:=fun _=>Option (PV×Sto×Prop)) none (fun r=>some (r,s1,q1)) (packR vs)) (resK f1 af.results))=some (r,σ',q)→Ev R f args σ r σ':=by
    intro e he hc hh;cases hv:resK f1 af.results with
    |none=>rw[hv] at hh;cases hh
    |some vs=>
     rw[hv] at hh;dsimp only at hh;cases hp:packR vs with
     |none=>rw[hp] at hh;cases hh
     |some p=>
      rw[hp] at hh;cases hh;obtain⟨N,H⟩:=hc;refine⟨N+1,fun n hn=>?_⟩
      obtain⟨n,rfl⟩:∃m,n=m+1:=⟨n - 1,by omega⟩
      rw[hR];obtain⟨ff1,a1,a2⟩:=H n (by omega) _ (Sub.refl _)
      unfold AkS;rw[hb,a1];have hv':=AXH a2 _ _ hv;rcases he with rfl | rfl
      ·dsimp only[cond_true];rw[hv'];simp[hp]
      ·dsimp only[cond_true];rw[hv'];simp[hp]
   cases e with
   |normal=>
    have h':=h
    have hq':q1:=by
     cases hv:resK f1 af.results with
     |none=>simp only[outE,hv] at h';cases h'
     |some vs=>
      simp only[outE,hv] at h';cases hp:packR vs with
      |none=>rw[hp] at h';cases h'
      |some p=>rw[hp] at h';cases h';exact hq
    exact fin (.inl rfl) (hs hq') h
   |exit i=>cases h
   |ret=>
    have h':=h
    have hq':q1:=by
     cases hv:resK f1 af.results with
     |none=>simp only[outE,hv] at h';cases h'
     |some vs=>
      simp only[outE,hv] at h';cases hp:packR vs with
      |none=>rw[hp] at h';cases h'
      |some p=>rw[hp] at h';cases h';exact hq
    exact fin (.inr rfl) (hs hq') h
theorem fn_ruleO{f:FuncId}{af:AFunc}{args:List PV}{σ σ':Sto}{r:PV}{tp:Tape}{q:Prop}(hR:∀n,R (n+1) f args σ=AkS pur (R n) n af args σ)(hq:q)(h:runTO pur R af args σ tp r=some (r,σ',q)):Ev R f args σ r σ':=by
 unfold runTO at h;cases hb:(Nat.beq args.length af.nargs&&Nat.ble args.length af.ntmps) with
 |false=>rw[hb] at h;cases h
 |true=>
  rw[hb] at h;cases hx:tRun pur R af.code (initK args 0) σ tp True with
  |none=>rw[hx] at h;cases h
  |some o=>
   rw[hx] at h;obtain⟨_,hs⟩:=AxI af.code hx;obtain⟨e,f1,s1,t1,q1⟩:=o;dsimp only[cond_true] at h hs
   have fin:∀{e},e=.normal∨e=.ret→AXA pur R af.code (initK args 0) σ e f1 s1→(resK f1 af.results).bind packR=some r→s1=σ'→Ev R f args σ r σ':=by
    rintro e he hc hh rfl
    obtain⟨vs,hv,hp⟩:=Option.bind_eq_some_iff.1 hh;obtain⟨N,H⟩:=hc;refine⟨N+1,fun n hn=>?_⟩
    obtain⟨n,rfl⟩:∃m,n=m+1:=⟨n - 1,by omega⟩
    rw[hR];obtain⟨ff1,a1,a2⟩:=H n (by omega) _ (Sub.refl _)
    unfold AkS;rw[hb,a1];have hv':=AXH a2 _ _ hv;rcases he with rfl | rfl
    ·dsimp only[cond_true];rw[hv'];simp[hp]
    ·dsimp only[cond_true];rw[hv'];simp[hp]
   cases e with
   |normal=>cases h;exact fin (.inl rfl) (hs hq.2) hq.1 rfl
   |exit i=>cases h
   |ret=>cases h;exact fin (.inr rfl) (hs hq.2) hq.1 rfl
theorem AK3(keep:List Bool)(body:FF→Sto→RX)(m:Nat)(ff:FF)(σ:Sto):iterK keep body (m+1) ff σ=Option.rec (motive:=fun _=>RX) none (fun r=>cond (AxL r.1) (iterK keep body m (AqY r.2.1 keep 0) r.2.2) (some r)) (body ff σ):=rfl
theorem loop_next{keep:List Bool}{c:ACode}{ls:List Nat}{ff ffn ff':FF}{σ σn σ':Sto}{e:AExit}{tp:Tape}{q:Prop}(hq:q)(hl:AjF pur R keep c ffn σn e ff' σ')(h:nextT pur R keep c ls ff σ tp=some (ffn,σn,q)):AjF pur R keep c ff σ e ff' σ':=by
 unfold nextT at h;cases hx:tRun pur R c ff σ tp True with
 |none=>rw[hx] at h;cases h
 |some o=>
  rw[hx] at h;obtain⟨_,hs⟩:=AxI c hx;obtain⟨e1,f1,s1,t1,q1⟩:=o;cases e1 with
  |exit i=>cases h
  |ret=>cases h
  |normal=>
   cases h;obtain⟨N1,H1⟩:=hs hq;obtain⟨N2,H2⟩:=hl;refine⟨max N1 (N2+1),fun n hn m hm ff0 hs0=>?_⟩
   obtain⟨m,rfl⟩:∃m',m=m'+1:=⟨m - 1,by omega⟩
   obtain⟨ff1,a1,a2⟩:=H1 n (by omega) ff0 hs0
   obtain⟨ff2,b1,b2⟩:=H2 n (by omega) m (by omega) (AqY ff1 keep 0) ((AwJ _ _).trans (AxI.mask_sub a2 keep 0))
   refine⟨ff2,?_,b2⟩
   rw[AK3,a1];exact b1
theorem AK0{keep:List Bool}{c:ACode}{ls:List Nat}{ff ff':FF}{σ σ':Sto}{e:AExit}{tp:Tape}{q:Prop}(hq:q)(h:leaveT pur R c ls ff σ tp=some (e,ff',σ',q)):AjF pur R keep c ff σ e ff' σ':=by
 unfold leaveT at h;cases hx:tRun pur R c ff σ tp True with
 |none=>rw[hx] at h;cases h
 |some o=>
  rw[hx] at h;obtain⟨_,hs⟩:=AxI c hx;obtain⟨e1,f1,s1,t1,q1⟩:=o
  have key:AxL e1=false→(e1,pickF ls f1,s1,q1)=(e,ff',σ',q)→AjF pur R keep c ff σ e ff' σ':=by
   intro hn0 he;cases he;obtain⟨N1,H1⟩:=hs hq;refine⟨N1+1,fun n hn m hm ff0 hs0=>?_⟩
   obtain⟨m,rfl⟩:∃m',m=m'+1:=⟨m - 1,by omega⟩
   obtain⟨ff1,a1,a2⟩:=H1 n (by omega) ff0 hs0
   refine⟨ff1,?_,(AwJ _ _).trans a2⟩
   rw[AK3,a1];show cond (AxL _) _ _=_;rw[hn0];rfl
  cases e1 with
  |normal=>cases h
  |exit i=>exact key rfl (Option.some.inj h)
  |ret=>exact key rfl (Option.some.inj h)
theorem op_p{k:PK}{vs:List PV}{σ:Sto}{rs:List (Option PV)}(h:semP k vs=some rs):OpEv pur R (.p k) vs σ rs σ:=⟨0,fun _ _=>by simp only[sem,h,Option.map_some]⟩
theorem op_r{k:RK}{vs:List PV}{σ:Sto}{rs:List (Option PV)}(h:semR k vs σ=some rs):OpEv pur R (.r k) vs σ rs σ:=⟨0,fun _ _=>by simp only[sem,h,Option.map_some]⟩
theorem op_c{f:FuncId}{vs zs:List PV}{σ s:Sto}{r r':PV}(h:Ev R f zs [] r s)(hv:vs.map PV.Aq0=zs)(hf:(vs.all PV.free&&vs.all PV.flat)=true)(hr:r.flat=true)(hd:r.Aq0=r'):OpEv pur R (.c f) vs σ [some r'] σ:=by
 obtain⟨N,H⟩:=h;exact⟨N,fun n hn=>by simp only[sem,hf,if_true,hv,H n hn,Option.bind_some,hr,hd]⟩
theorem op_wc{f:FuncId}{vs zs:List PV}{σ σ':Sto}{r r':PV}(h:Ev R f zs σ r σ')(hp:pur f=false)(hv:vs.map PV.Aq0=zs)(hf:vs.all PV.free=true)(hd:r.Aq0=r'):OpEv pur R (.w (.call f)) vs σ [some r'] σ':=by
 obtain⟨N,H⟩:=h;refine⟨N,fun n hn=>?_⟩
 show semW pur (R n) (.call f) vs σ=_;unfold semW;simp only[hf,if_true,hp,Bool.false_eq_true,if_false,hv,H n hn,Option.map_some,hd]
theorem op_wd{f:FuncId}{fs cs vs zs:List PV}{σ σ':Sto}{r r':PV}(h:Ev R f zs σ r σ')(hp:pur f=false)(hv:(fs++vs++cs).map PV.Aq0=zs)(hf:vs.all PV.free=true)(hd:r.Aq0=r'):OpEv pur R (.w .calld) (.func f fs cs::vs) σ [some r'] σ':=by
 obtain⟨N,H⟩:=h;refine⟨N,fun n hn=>?_⟩
 show semW pur (R n) .calld (.func f fs cs::vs) σ=_;unfold semW;simp only[hf,if_true,hp,Bool.false_eq_true,if_false,hv,H n hn,Option.map_some,hd]
theorem AkV{f:FuncId}{fs cs vs zs:List PV}{σ s:Sto}{r r':PV}(h:Ev R f zs [] r s)(hp:pur f=true)(hv:(fs++vs++cs).map PV.Aq0=zs)(hf:vs.all PV.free=true)(hfl:zs.all PV.flat=true)(hr:r.flat=true)(hd:r.Aq0=r'):OpEv pur R (.w .calld) (.func f fs cs::vs) σ [some r'] σ:=by
 obtain⟨N,H⟩:=h;refine⟨N,fun n hn=>?_⟩
 show semW pur (R n) .calld (.func f fs cs::vs) σ=_;unfold semW;simp only[hf,if_true,hp,hv,hfl,H n hn,Option.bind_some,hr,hd]
end
end Go.Abs

namespace Go.Abs.Z
open Go.Proofs Go.RowKit
inductive Tr where
 |mk (kind:Int) (text:List UInt8) (st en:Int) (none:Bool) (kids:List Tr)
 deriving Inhabited
mutual
def Tr.pv:Tr→PV
 |.mk k t a e n ks=>.agg [.int .i64 k,.str t,.int .i64 a,.int .i64 e,if n then .nils else .slice false 5 (Tr.pvs ks)]
def Tr.pvs:List Tr→List PV
 |[]=>[]
 |t::ts=>t.pv::Tr.pvs ts
end
mutual
def Tr.wf:Tr→Prop
 |.mk k t a e n ks=>(n=true→ks=[])∧Tr.wfs ks
def Tr.wfs:List Tr→Prop
 |[]=>True
 |t::ts=>t.wf∧Tr.wfs ts
end
theorem Tr.AjL:∀ks:List Tr,Tr.pvs ks=ks.map Tr.pv
 |[]=>rfl
 |t::ts=>by rw[Tr.pvs,Tr.AjL ts];rfl
theorem Tr.wfs_mem:∀{ks:List Tr},Tr.wfs ks→∀k∈ks,k.wf
 |[],_,k,h=>by cases h
 |t::ts,hw,k,h=>by
  rcases List.mem_cons.1 h with rfl | h
  ·exact hw.1
  ·exact Tr.wfs_mem hw.2 k h
def Tr.kids:Tr→List Tr
 |.mk _ _ _ _ _ ks=>ks
def Tr.kp:Tr→PV
 |.mk _ _ _ _ n ks=>if n then .nils else .slice false 5 (Tr.pvs ks)
def Tr.kind:Tr→Int
 |.mk k _ _ _ _ _=>k
def Tr.text:Tr→List UInt8
 |.mk _ t _ _ _ _=>t
def Tr.st:Tr→Int
 |.mk _ _ a _ _ _=>a
def Tr.en:Tr→Int
 |.mk _ _ _ e _ _=>e
def nd(k:Int)(t:List UInt8)(a e:Int)(kp:PV):PV:=.agg [.int .i64 k,.str t,.int .i64 a,.int .i64 e,kp]
def okKid(kp:PV):Prop:=kp.own0=kp∧kp.isAgg=false∧kp.isSelf=false∧kp.flat=true
theorem nd_disown{k a e:Int}{t:List UInt8}{kp:PV}(h:okKid kp):(nd k t a e kp).Aq0=nd k t a e kp:=by
 show PV.agg [.int .i64 k,.str t,.int .i64 a,.int .i64 e,kp.own0]=_;rw[h.1];rfl
theorem p_fa4{k a e:Int}{t:List UInt8}{kp:PV}(h:okKid kp):semP (.fa 4 1 false) [.vptr (nd k t a e kp)]=some [some (.vptr kp)]:=by
 simp[semP,faV,sub,nd,PV.cells,h.2.1,h.2.2.1]
theorem Tr.pv_nd(T:Tr):T.pv=nd T.kind T.text T.st T.en T.kp:=by cases T;rfl
theorem Tr.kp_ok(T:Tr):okKid T.kp:=by
 obtain⟨k,t,a,e,n,ks⟩:=T;show okKid (if n then .nils else .slice false 5 (Tr.pvs ks))
 cases n
 ·exact⟨rfl,rfl,rfl,rfl⟩
 ·exact⟨rfl,rfl,rfl,rfl⟩
theorem Tr.AxT(T:Tr):T.pv.Aq0=T.pv:=by rw[Tr.pv_nd,nd_disown T.kp_ok]
theorem Tr.pv_flat(T:Tr):T.pv.flat=true:=by rw[Tr.pv_nd];rfl
theorem Tr.AzW(T:Tr):T.pv.free=true:=by rw[Tr.pv_nd];rfl
theorem Tr.pv_okc(T:Tr):T.pv.okc=true:=by rw[Tr.pv_nd];rfl
theorem Tr.AZ7(T:Tr):T.pv.cells.length=5:=by rw[Tr.pv_nd];rfl
theorem Tr.pv_ones(T:Tr):T.pv.ones=true:=by
 obtain⟨k,t,a,e,n,ks⟩:=T;cases n<;>rfl
theorem p_mv(v:PV)(h:v.free=true):semP .mv [v]=some [some v.Aq0]:=by simp[semP,h]
theorem p_bx(v:PV)(h:v.flat=true):semP .bx [v]=some [some (.vptr v.Aq0)]:=by simp[semP,h]
theorem p_idx(o:Bool)(s j:Nat)(x:List PV)(v:PV)(h:x[j]?=some v):semP (.idx s) [.slice o s x,.int .i64 j]=some [some (.vptr v)]:=by
 have:(0:Int)≤(j:Int):=by omega
 simp[semP,idxV,h,this]
theorem AqD(s:List UInt8)(j:Nat)(c:UInt8)(h:s[j]?=some c):semP .sidx [.str s,.int .i64 j]=some [some (.int .u8 c.toNat)]:=by
 have:(0:Int)≤(j:Int):=by omega
 simp[semP,sidxV,h,this]
theorem p_ssl(s:List UInt8)(l h:Nat)(h1:l≤h)(h2:h≤s.length):semP (.ssl true true) [.str s,.int .i64 (l:Nat),.int .i64 (h:Nat)]=some [some (.str ((s.drop l).take (h - l)))]:=by
 have h0:(0:Int)≤(l:Int):=by omega
 have h1':(l:Int)≤(h:Int):=by omega
 have h2':(h:Int)≤(s.length:Int):=by omega
 simp[semP,cutB,h1',h2']
theorem k_get(s t:Nat)(v:Option PV)(ff:FF):getK ((s,v)::ff) t=if s=t then v else getK ff t:=by
 by_cases h:s=t
 ·subst h;rw[if_pos rfl,Av0];have:Nat.beq s s=true:=Nat.beq_refl _;simp[this]
 ·rw[if_neg h,Av0];cases hb:Nat.beq s t with
  |false=>simp[hb]
  |true=>exact absurd (Nat.eq_of_beq_eq_true hb) h
section
variable(k:IntKind)(x:Int)(s:List UInt8)(b:Bool)(o:Bool)(z:Nat)(l:List PV)
theorem vd1:(PV.int k x).Aq0=.int k x:=rfl
theorem vd2:(PV.str s).Aq0=.str s:=rfl
theorem vd3:(PV.bool b).Aq0=.bool b:=rfl
theorem vd4:PV.nils.Aq0=.nils:=rfl
theorem vd5:(PV.slice o z l).Aq0=.slice false z l:=rfl
theorem vf1:(PV.int k x).free=true:=rfl
theorem vf2:(PV.str s).free=true:=rfl
theorem vf3:(PV.bool b).free=true:=rfl
theorem vf4:PV.nils.free=true:=rfl
theorem vf5:(PV.slice o z l).free=true:=rfl
theorem vg1:(PV.int k x).flat=true:=rfl
theorem vg2:(PV.str s).flat=true:=rfl
theorem vg3:(PV.bool b).flat=true:=rfl
theorem vg4:PV.nils.flat=true:=rfl
theorem vg5:(PV.slice o z l).flat=true:=rfl
end
attribute [simp] k_get vd1 vd2 vd3 vd4 vd5 vf1 vf2 vf3 vf4 vf5 vg1 vg2 vg3 vg4 vg5
end Go.Abs.Z

namespace Go.Abs.Z
open Go.Proofs Go.RowKit
abbrev E:=Ev run
abbrev LE:=AjF pur run
def lps:ACode→List (List Bool×ACode)
 |.seq a b=>lps a++lps b
 |.cond _ a b=>lps a++lps b
 |.block _ a=>lps a
 |.loop k a=>(k,a)::lps a
 |_=>[]
def ml(f:AFunc)(k:Nat):List Bool:=((lps f.code).getD k ([],.skip)).1
def lc(f:AFunc)(k:Nat):ACode:=((lps f.code).getD k ([],.skip)).2
abbrev LL(f:AFunc)(k:Nat):=LE (ml f k) (lc f k)
abbrev N(n:Nat):PV:=.int .i64 (n:Int)
abbrev I(x:Int):PV:=.int .i64 x
def Rn(f:FuncId)(af:AFunc):Prop:=∀n args σ,run (n+1) f args σ=AkS pur (run n) n af args σ
structure Stp where
 g:Nat
 a:Ans
 q:Prop→Prop
 pf:∀{x:Prop},x→q x
section
variable{R:Nat→Caller}{k:AK}{vs:List PV}{σ σ':Sto}{rs:List (Option PV)}
def st(g:Nat)(h:OpEv pur R k vs σ rs σ'):Stp:=⟨g,.res rs σ',fun x=>OpEv pur R k vs σ rs σ'∧x,fun x=>⟨h,x⟩⟩
def sg(g:Nat)(h:OpEv pur R k vs σ rs σ'):Stp:=⟨g,.grdr rs σ',fun x=>OpEv pur R k vs σ rs σ'∧(some true=some true∧x),fun x=>⟨h,rfl,x⟩⟩
def sl(g:Nat)(ls:List Nat){keep:List Bool}{c:ACode}{ff ff1:FF}{e:AExit}(h:AjF pur R keep c ff σ e ff1 σ'):Stp:=⟨g,.loop ls e ff1 σ',fun x=>AjF pur R keep c ff σ e ff1 σ'∧x,fun x=>⟨h,x⟩⟩
end
noncomputable def AvJ(l:List Stp):Tape:=List.rec (motive:=fun _=>Tape) [] (fun s _ ih=>(s.g,s.a)::ih) l
noncomputable def qOf(l:List Stp):Prop→Prop:=List.rec (motive:=fun _=>Prop→Prop) (fun x=>x) (fun s _ ih x=>ih (s.q x)) l
theorem AwE:∀(l:List Stp) {x:Prop},x→qOf l x
 |[],_,h=>h
 |s::l,_,h=>AwE l (s.pf h)
theorem rule{f:FuncId}{af:AFunc}{args:List PV}{σ σ':Sto}{r:PV}(hR:Rn f af)(l:List Stp)(h:runT pur run af args σ (AvJ l)=some (r,σ',qOf l True):=by kernel_rfl):E f args σ r σ':=fn_rule (fun n=>hR n args σ) (AwE l trivial) h
theorem ruleO{f:FuncId}{af:AFunc}{args:List PV}{σ σ':Sto}{r:PV}{ff:FF}{rs:List (Nat×Option Nat)}(hR:Rn f af)(l:List Stp)(ho:(resK ff rs).bind packR=some r)(h:runTO pur run af args σ (AvJ l) r=some (r,σ',(resK ff rs).bind packR=some r∧qOf l True):=by kernel_rfl):E f args σ r σ':=fn_ruleO (fun n=>hR n args σ) ⟨ho,AwE l trivial⟩ h
theorem ruleN{keep:List Bool}{c:ACode}{ff ffn ff':FF}{σ σn σ':Sto}{e:AExit}(ls:List Nat)(l:List Stp)(hl:AjF pur run keep c ffn σn e ff' σ')(h:nextT pur run keep c ls ff σ (AvJ l)=some (ffn,σn,qOf l True):=by kernel_rfl):AjF pur run keep c ff σ e ff' σ':=loop_next (AwE l trivial) hl h
theorem ruleX{keep:List Bool}{c:ACode}{ff ff':FF}{σ σ':Sto}{e:AExit}(ls:List Nat)(l:List Stp)(h:leaveT pur run c ls ff σ (AvJ l)=some (e,ff',σ',qOf l True):=by kernel_rfl):AjF pur run keep c ff σ e ff' σ':=AK0 (AwE l trivial) h
theorem P{k:PK}{vs:List PV}{rs:List (Option PV)}(h:semP k vs=some rs):OpEv pur run (.p k) vs [] rs []:=op_p h
theorem PS(σ:Sto){k:PK}{vs:List PV}{rs:List (Option PV)}(h:semP k vs=some rs):OpEv pur run (.p k) vs σ rs σ:=op_p h
theorem Q{k:RK}{vs:List PV}{rs:List (Option PV)}(h:semR k vs []=some rs):OpEv pur run (.r k) vs [] rs []:=op_r h
theorem QS(σ:Sto){k:RK}{vs:List PV}{rs:List (Option PV)}(h:semR k vs σ=some rs):OpEv pur run (.r k) vs σ rs σ:=op_r h
theorem AwX{f:FuncId}{args:List PV}{σ σ':Sto}{r:PV}(N:Nat)(h:∀n,N≤n→run (n+1) f args σ=some (r,σ')):E f args σ r σ':=
 ⟨N+1,fun n hn=>by obtain⟨n,rfl⟩:∃m,n=m+1:=⟨n - 1,by omega⟩;exact h n (by omega)⟩
def accP(size:Nat):List PV→PV
 |[]=>.nils
 |es=>.slice true size es
def accD(size:Nat):List PV→PV
 |[]=>.nils
 |es=>.slice false size es
section
variable{σ:Sto}{k:IntKind}
theorem mv_of{v x:PV}(hf:v.free=true)(h:v.Aq0=x):semP .mv [v]=some [some x]:=by rw[p_mv v hf,h]
theorem AvH(size:Nat)(es:List PV):(accP size es).Aq0=accD size es:=by cases es<;>rfl
theorem Aw1(size:Nat)(es:List PV):(accD size es).Aq0=accD size es:=by cases es<;>rfl
theorem acc_free(size:Nat)(es:List PV):(accP size es).free=true:=by cases es<;>rfl
theorem AJ9(size:Nat)(es:List PV):(accD size es).free=true:=by cases es<;>rfl
theorem AJA(size:Nat)(es:List PV):(accD size es).flat=true:=by cases es<;>rfl
theorem acc_flat(size:Nat)(es:List PV):(accP size es).flat=true:=by cases es<;>rfl
theorem AZK(T:Tr):T.kp.Aq0=T.kp:=by
 obtain⟨k,t,a,e,n,ks⟩:=T;cases n<;>rfl
theorem kp_own0(T:Tr):T.kp.own0=T.kp:=T.kp_ok.1
theorem AZJ(T:Tr):T.kp.free=true:=by
 obtain⟨k,t,a,e,n,ks⟩:=T;cases n<;>rfl
theorem kp_flat(T:Tr):T.kp.flat=true:=by
 obtain⟨k,t,a,e,n,ks⟩:=T;cases n<;>rfl
theorem mv_kp(T:Tr):semP .mv [T.kp]=some [some T.kp]:=mv_of (AZJ T) (AZK T)
theorem mv_acc(size:Nat)(es:List PV):semP .mv [accP size es]=some [some (accD size es)]:=mv_of (acc_free ..) (AvH ..)
theorem AzE(size:Nat)(es:List PV):semP .mv [accD size es]=some [some (accD size es)]:=mv_of (AJ9 ..) (Aw1 ..)
theorem mvo_of{v x:PV}(hf:v.free=true)(h:v.Aq0=x):semP .mvo [v]=some [some v,some x]:=by
 show(if v.free=true then _ else _)=_
 rw[if_pos hf,h]
theorem AkY(size:Nat)(es:List PV):semP .mvo [accP size es]=some [some (accP size es),some (accD size es)]:=mvo_of (acc_free ..) (AvH ..)
theorem bx_of{v x:PV}(hf:v.flat=true)(h:v.Aq0=x):semP .bx [v]=some [some (.vptr x)]:=by rw[p_bx v hf,h]
theorem bx_tr(T:Tr):semP .bx [T.pv]=some [some (.vptr T.pv)]:=bx_of T.pv_flat T.AxT
theorem bxl_of{v x:PV}(hf:v.okc=true)(h:v.Aq0=x):semP .bxl [v]=some [some x]:=by
 show(if v.okc=true then _ else _)=_
 rw[if_pos hf,h]
theorem bxl_tr(T:Tr):semP .bxl [T.pv]=some [some T.pv]:=bxl_of T.pv_okc T.AxT
theorem AqN(T:Tr):semP (.sti 5) [.hole 5,T.pv]=some [some (.vptr T.pv)]:=by
 show(if _ then _ else _)=_
 rw[if_pos ⟨rfl,T.AZ7,T.pv_flat,T.pv_ones⟩,T.AxT]
theorem ld_of{n:Nat}{ag:Bool}{v x:PV}(h1:fits n ag v=true)(h2:v.free=true)(h:v.Aq0=x):semR (.ld n ag) [.vptr v] σ=some [some x]:=by
 show(if fits n ag v=true∧v.free=true then some v else none).map (fun v=>[some v.Aq0])=_
 rw[if_pos ⟨h1,h2⟩,←h];rfl
theorem ld_tr(T:Tr):semR (.ld 5 true) [.vptr T.pv] σ=some [some T.pv]:=ld_of (by rw[Tr.pv_nd];rfl) T.AzW T.AxT
theorem ld_kp(T:Tr):semR (.ld 1 false) [.vptr T.kp] σ=some [some T.kp]:=ld_of (by obtain⟨k,t,a,e,n,ks⟩:=T;cases n<;>rfl) (AZJ T) (AZK T)
theorem ldp_tr(T:Tr):semP (.ldp 5 true) [.vptr T.pv]=some [some T.pv]:=by
 show(if fits 5 true T.pv=true∧T.pv.free=true then some T.pv else none).map (fun v=>[some v.Aq0])=_
 rw[if_pos ⟨by rw[Tr.pv_nd];rfl,T.AzW⟩,Option.map_some,T.AxT]
theorem fa_tr0(T:Tr):semP (.fa 0 1 false) [.vptr T.pv]=some [some (.vptr (.int .i64 T.kind))]:=by rw[Tr.pv_nd];rfl
theorem fa_tr1(T:Tr):semP (.fa 1 1 false) [.vptr T.pv]=some [some (.vptr (.str T.text))]:=by rw[Tr.pv_nd];rfl
theorem fa_tr2(T:Tr):semP (.fa 2 1 false) [.vptr T.pv]=some [some (.vptr (.int .i64 T.st))]:=by rw[Tr.pv_nd];rfl
theorem fa_tr3(T:Tr):semP (.fa 3 1 false) [.vptr T.pv]=some [some (.vptr (.int .i64 T.en))]:=by rw[Tr.pv_nd];rfl
theorem fa_tr4(T:Tr):semP (.fa 4 1 false) [.vptr T.pv]=some [some (.vptr T.kp)]:=by rw[Tr.pv_nd];exact p_fa4 T.kp_ok
theorem len_kp{T:Tr}(h:T.wf):semP (.len false) [T.kp]=some [some (.int .i64 (T.kids.length:Nat))]:=by
 obtain⟨k,t,a,e,n,ks⟩:=T;cases n
 ·show some [some (PV.int .i64 ((Tr.pvs ks).length:Nat))]=_;rw[Tr.AjL,List.length_map];rfl
 ·have:ks=[]:=h.1 rfl;subst this;rfl
theorem len_trs(o:Bool)(s:Nat)(ts:List Tr):semP (.len false) [.slice o s (Tr.pvs ts)]=some [some (.int .i64 (ts.length:Nat))]:=by
 show some [some (PV.int .i64 ((Tr.pvs ts).length:Nat))]=_;rw[Tr.AjL,List.length_map]
theorem len_strs(o:Bool)(s:Nat)(ts:List (List UInt8)):semP (.len false) [.slice o s (ts.map .str)]=some [some (.int .i64 (ts.length:Nat))]:=by
 show some [some (PV.int .i64 ((ts.map PV.str).length:Nat))]=_;rw[List.length_map]
theorem len_accd(size:Nat)(es:List PV):semP (.len false) [accD size es]=some [some (.int .i64 (es.length:Nat))]:=by cases es<;>rfl
theorem AQN{o:Bool}{s:Nat}{ts:List Tr}{U:Tr}(j:Nat)(h:ts[j]?=some U):semP (.idx s) [.slice o s (Tr.pvs ts),.int .i64 (j:Nat)]=some [some (.vptr U.pv)]:=
 p_idx _ _ _ _ _ (by rw[Tr.AjL,List.getElem?_map,h];rfl)
theorem idx_strs{o:Bool}{s:Nat}{ts:List (List UInt8)}{t:List UInt8}(j:Nat)(h:ts[j]?=some t):semP (.idx s) [.slice o s (ts.map .str),.int .i64 (j:Nat)]=some [some (.vptr (.str t))]:=
 p_idx _ _ _ _ _ (by rw[List.getElem?_map,h];rfl)
theorem idx_kp{T U:Tr}(j:Nat)(w:T.wf)(h:T.kids[j]?=some U):semP (.idx 5) [T.kp,.int .i64 (j:Nat)]=some [some (.vptr U.pv)]:=by
 obtain⟨k,t,a,e,n,ks⟩:=T;cases n with
 |false=>exact AQN j h
 |true=>
  have:ks=[]:=w.1 rfl;subst this;cases h
theorem Aj0{op:BinOp}{c:Nat}{x y:PV}{e v:Bool}(h:e=v)(hs:semP (.bin op c) [x,y]=some [some (.bool e)]):semP (.bin op c) [x,y]=some [some (.bool v)]:=by rw[hs,h]
theorem beq_of_eq{α:Type}[BEq α][LawfulBEq α]{x y:α}(h:x=y):(x==y)=true:=by simp[h]
theorem beq_of_ne{α:Type}[BEq α][LawfulBEq α]{x y:α}(h:x≠y):(x==y)=false:=by simp[h]
theorem bne_of_eq{α:Type}[BEq α][LawfulBEq α]{x y:α}(h:x=y):(x != y)=false:=by simp[h]
theorem bne_of_ne{α:Type}[BEq α][LawfulBEq α]{x y:α}(h:x≠y):(x != y)=true:=by simp[h]
theorem nbeq_of_eq{α:Type}[BEq α][LawfulBEq α]{x y:α}(h:x=y):(!(x==y))=false:=by simp[h]
theorem nbeq_of_ne{α:Type}[BEq α][LawfulBEq α]{x y:α}(h:x≠y):(!(x==y))=true:=by simp[h]
theorem add_of{x y z:Int}(h:k.wrap (x+y)=z):semP (.bin .add 0) [.int k x,.int k y]=some [some (.int k z)]:=by
 rw[←h];cases k<;>rfl
theorem sub_of{x y z:Int}(h:k.wrap (x - y)=z):semP (.bin .sub 0) [.int k x,.int k y]=some [some (.int k z)]:=by
 rw[←h];cases k<;>rfl
theorem mul_of{x y z:Int}(h:k.wrap (x * y)=z):semP (.bin .mul 0) [.int k x,.int k y]=some [some (.int k z)]:=by
 rw[←h];cases k<;>rfl
theorem Aq4(j m:Nat)(h:j<2000000000)(hm:m<2000000000):semP (.bin .add 0) [.int .i64 (j:Nat),.int .i64 (m:Nat)]=some [some (.int .i64 ((j+m:Nat):Int))]:=by
 apply add_of;simp[IntKind.wrap,IntKind.bits,IntKind.signed];omega
theorem cvt_of{k':IntKind}{x z:Int}(h:k'.wrap x=z):semP (.cvt k') [.int k x]=some [some (.int k' z)]:=by rw[←h];rfl
theorem Av3(i:Nat){vs:List PV}{v x:PV}(h:vs[i]?=some v)(h2:vs.all PV.free=true∧v.Aq0=x):semP (.ext i) [.tuple vs]=some [some x]:=by
 show(if vs.all PV.free=true then _ else _)=_
 rw[if_pos h2.1,h,Option.map_some,h2.2]
theorem bsl_of{size:Nat}{vs ws:List PV}(h:vs.all (fun v=>v.cells.length==size&&v.flat)=true)(h2:vs.map PV.Aq0=ws):semP (.bsl size) vs=some [some (.slice true size ws)]:=by
 show(if vs.all (fun v=>v.cells.length==size&&v.flat)=true then _ else _)=_
 rw[if_pos h,h2]
theorem app_gen{size:Nat}{s x:PV}{es xs:List PV}(h1:appS size s=some es)(h2:appX size x=some xs)(h3:xs.isEmpty=false)(h4:es.length+xs.length≤AqC)(h5:xs.all PV.ones=true):semP (.app size) [s,x]=some [some (.slice true size (es++xs)),some s.Aq0]:=by
 show appV size s x=_;unfold appV;rw[h1,h2];dsimp only;rw[if_neg (by simp[h3]),if_pos ⟨h4,h5⟩]
theorem AzX{size:Nat}{es xs:List PV}{o:Bool}(h4:es.length+xs.length≤AqC)(h:xs.isEmpty=false∧xs.all PV.ones=true):semP (.app size) [accP size es,.slice o size xs]=some [some (accP size (es++xs)),some (accD size es)]:=by
 have h2:appX size (.slice o size xs)=some xs:=by simp[appX]
 have h1:appS size (accP size es)=some es:=by cases es<;>simp[accP,appS]
 rw[app_gen h1 h2 h.1 h4 h.2,AvH];cases es with
 |nil=>cases xs with
  |nil=>simp at h
  |cons=>rfl
 |cons=>rfl
theorem app_lit{size:Nat}{o':Bool}{es xs:List PV}(h4:es.length+xs.length≤AqC)(h3:xs.isEmpty=false)(h5:xs.all PV.ones=true):semP (.app size) [.slice true size es,.slice o' size xs]=some [some (.slice true size (es++xs)),some (.slice false size es)]:=
 app_gen (by simp[appS]) (by simp[appX]) h3 h4 h5
theorem build_of{zero:List PV}{parts:List (Nat×Nat)}{vs cs:List PV}(h:fillP zero parts vs=some cs):semP (.build zero parts) vs=some [some (.agg cs)]:=by
 show(fillP zero parts vs).map _=_;rw[h];rfl
theorem stl_of{off n:Nat}{c v r:PV}(h1:v.cells.length=n)(h2:v.okc=true)(h3:v.ones=true)(h:upd c off v.Aq0=some r):semP (.stl off n) [c,v]=some [some r]:=by
 show(if _ then _ else _)=_
 rw[if_pos ⟨h1,h2,h3⟩,h];rfl
theorem upd_all{c x:PV}(h5:c.cells.length=5)(h:x.cells.length=5)(hc:∃cs,c=.agg cs)(hx:∃xs,x=.agg xs):upd c 0 x=some x:=by
 obtain⟨cs,rfl⟩:=hc;obtain⟨xs,rfl⟩:=hx;simp only[PV.cells] at h h5;show(if _ then _ else _)=_
 rw[if_pos (by simp[PV.cells,h,h5])]
 simp[PV.cells,h,h5]
theorem stl_tr5{c:PV}(T:Tr)(h5:c.cells.length=5)(hc:∃cs,c=.agg cs):semP (.stl 0 5) [c,T.pv]=some [some T.pv]:=
 stl_of T.AZ7 T.pv_okc T.pv_ones (by rw[T.AxT];exact upd_all h5 T.AZ7 hc ⟨_,T.pv_nd⟩)
theorem stl_lit(a b c d e:PV)(T:Tr):semP (.stl 0 5) [.agg [a,b,c,d,e],T.pv]=some [some T.pv]:=stl_tr5 T rfl ⟨_,rfl⟩
theorem stl_trt(U T:Tr):semP (.stl 0 5) [U.pv,T.pv]=some [some T.pv]:=stl_tr5 T U.AZ7 ⟨_,U.pv_nd⟩
section
variable{x y:Int}
theorem Aq6(k:IntKind)(h:x<y):semP (.bin .lss 0) [.int k x,.int k y]=some [some (.bool true)]:=Aj0 (e:=decide (x<y)) (decide_eq_true h) (by cases k<;>rfl)
theorem AqJ(k:IntKind)(h:¬x<y):semP (.bin .lss 0) [.int k x,.int k y]=some [some (.bool false)]:=Aj0 (e:=decide (x<y)) (decide_eq_false h) (by cases k<;>rfl)
theorem b_leqT(k:IntKind)(h:x≤y):semP (.bin .leq 0) [.int k x,.int k y]=some [some (.bool true)]:=Aj0 (e:=decide (x≤y)) (decide_eq_true h) (by cases k<;>rfl)
theorem b_leqF(k:IntKind)(h:¬x≤y):semP (.bin .leq 0) [.int k x,.int k y]=some [some (.bool false)]:=Aj0 (e:=decide (x≤y)) (decide_eq_false h) (by cases k<;>rfl)
theorem AxO(k:IntKind)(h:x>y):semP (.bin .gtr 0) [.int k x,.int k y]=some [some (.bool true)]:=Aj0 (e:=decide (x>y)) (decide_eq_true h) (by cases k<;>rfl)
theorem Az7(k:IntKind)(h:¬x>y):semP (.bin .gtr 0) [.int k x,.int k y]=some [some (.bool false)]:=Aj0 (e:=decide (x>y)) (decide_eq_false h) (by cases k<;>rfl)
theorem b_geqT(k:IntKind)(h:x≥y):semP (.bin .geq 0) [.int k x,.int k y]=some [some (.bool true)]:=Aj0 (e:=decide (x≥y)) (decide_eq_true h) (by cases k<;>rfl)
theorem b_geqF(k:IntKind)(h:¬x≥y):semP (.bin .geq 0) [.int k x,.int k y]=some [some (.bool false)]:=Aj0 (e:=decide (x≥y)) (decide_eq_false h) (by cases k<;>rfl)
theorem AqR(k:IntKind)(h:x=y):semP (.bin .eql 0) [.int k x,.int k y]=some [some (.bool true)]:=Aj0 (e:=(x==y)) (beq_of_eq h) (by cases k<;>rfl)
theorem AqB(k:IntKind)(h:x≠y):semP (.bin .eql 0) [.int k x,.int k y]=some [some (.bool false)]:=Aj0 (e:=(x==y)) (beq_of_ne h) (by cases k<;>rfl)
theorem AjJ(k:IntKind)(h:x≠y):semP (.bin .neq 0) [.int k x,.int k y]=some [some (.bool true)]:=Aj0 (e:=(x != y)) (bne_of_ne h) (by cases k<;>rfl)
theorem AQ4(k:IntKind)(h:x=y):semP (.bin .neq 0) [.int k x,.int k y]=some [some (.bool false)]:=Aj0 (e:=(x != y)) (bne_of_eq h) (by cases k<;>rfl)
end
section
variable{x y:List UInt8}
theorem AQX(h:x=y):semP (.bin .eql 0) [.str x,.str y]=some [some (.bool true)]:=Aj0 (e:=(x==y)) (beq_of_eq h) rfl
theorem AQY(h:x≠y):semP (.bin .eql 0) [.str x,.str y]=some [some (.bool false)]:=Aj0 (e:=(x==y)) (beq_of_ne h) rfl
theorem s_neqT(h:x≠y):semP (.bin .neq 0) [.str x,.str y]=some [some (.bool true)]:=Aj0 (e:=(!(x==y))) (nbeq_of_ne h) rfl
theorem s_neqF(h:x=y):semP (.bin .neq 0) [.str x,.str y]=some [some (.bool false)]:=Aj0 (e:=(!(x==y))) (nbeq_of_eq h) rfl
end
theorem AxZ(ff:FF)(t:Nat)(n:Option Nat)(rs:List (Nat×Option Nat)):resK ff ((t,n)::rs)=(match getK ff t,resK ff rs with | some v,some vs=>if resOk v n then some (v.Aq0::vs) else(Aw9 v n).map fun r=>r::vs | _,_=>none):=rfl
theorem res_nil(ff:FF):resK ff []=some []:=rfl
theorem ok_tr(T:Tr):resOk T.pv (some 5)=true:=by rw[Tr.pv_nd];obtain⟨k,t,a,e,n,ks⟩:=T;cases n<;>rfl
theorem ok_none(v:PV):resOk v none=v.free:=rfl
theorem agg_disown(cs:List PV):(PV.agg cs).Aq0=.agg (cs.map PV.own0):=rfl
theorem own0_int(k:IntKind)(x:Int):(PV.int k x).own0=.int k x:=rfl
theorem own0_str(x:List UInt8):(PV.str x).own0=.str x:=rfl
theorem own0_bool(x:Bool):(PV.bool x).own0=.bool x:=rfl
theorem own0_nils:PV.nils.own0=.nils:=rfl
theorem own0_slice(o:Bool)(s:Nat)(x:List PV):(PV.slice o s x).own0=.slice false s x:=rfl
theorem own0_acc(size:Nat)(es:List PV):(accP size es).own0=accD size es:=by cases es<;>rfl
theorem own0_accd(size:Nat)(es:List PV):(accD size es).own0=accD size es:=by cases es<;>rfl
theorem agg_free(cs:List PV):(PV.agg cs).free=true:=rfl
theorem agg_flat(cs:List PV):(PV.agg cs).flat=true:=rfl
theorem tuple_disown(cs:List PV):(PV.tuple cs).Aq0=.tuple cs:=rfl
theorem tuple_flat(cs:List PV):(PV.tuple cs).flat=cs.all PV.flat0:=by simp[PV.flat]
theorem tuple_free(cs:List PV):(PV.tuple cs).free=true:=rfl
theorem flat0_int(k:IntKind)(x:Int):(PV.int k x).flat0=true:=rfl
theorem flat0_str(x:List UInt8):(PV.str x).flat0=true:=rfl
theorem flat0_bool(x:Bool):(PV.bool x).flat0=true:=rfl
theorem flat0_tr(T:Tr):T.pv.flat0=true:=by rw[Tr.pv_nd];rfl
theorem flat0_slice(o:Bool)(s:Nat)(x:List PV):(PV.slice o s x).flat0=true:=rfl
theorem flat0_nils:PV.nils.flat0=true:=rfl
theorem flat0_accd(size:Nat)(es:List PV):(accD size es).flat0=true:=by cases es<;>rfl
theorem cells_agg(cs:List PV):(PV.agg cs).cells=cs:=rfl
theorem ones_agg(cs:List PV):(PV.agg cs).ones=cs.all PV.one:=rfl
theorem one_kp(T:Tr):T.kp.one=true:=by obtain⟨k,t,a,e,n,ks⟩:=T;cases n<;>rfl
theorem ones_tr(T:Tr):T.pv.ones=true:=T.pv_ones
theorem cells_tr(T:Tr):T.pv.cells.length=5:=T.AZ7
theorem ones_str(x:List UInt8):(PV.str x).ones=true:=rfl
theorem ones_int(k:IntKind)(x:Int):(PV.int k x).ones=true:=rfl
theorem one_str(x:List UInt8):(PV.str x).one=true:=rfl
theorem one_int(k:IntKind)(x:Int):(PV.int k x).one=true:=rfl
theorem ref_tr(T:Tr):T.pv.isRef=false:=by rw[Tr.pv_nd];rfl
theorem tr_disown(T:Tr):T.pv.Aq0=T.pv:=T.AxT
theorem tr_flat(T:Tr):T.pv.flat=true:=T.pv_flat
theorem tr_free(T:Tr):T.pv.free=true:=T.AzW
end
attribute [simp] AZK kp_own0 AZJ kp_flat AvH Aw1 acc_free AJ9 AJA acc_flat tr_disown tr_flat tr_free ok_tr ok_none agg_disown own0_int own0_str own0_bool own0_nils own0_slice own0_acc own0_accd agg_free agg_flat tuple_disown tuple_flat tuple_free
 flat0_int flat0_str flat0_bool flat0_tr flat0_slice flat0_nils flat0_accd cells_agg ones_agg one_kp ones_tr cells_tr ref_tr res_nil ones_str ones_int one_str one_int
theorem oC{f:FuncId}{xs:List PV}{r:PV}{s:Sto}(h:E f xs [] r s)(hs:(xs.all PV.free&&xs.all PV.flat)=true∧xs.map PV.Aq0=xs∧r.flat=true∧r.Aq0=r:=by first | exact⟨rfl,rfl,rfl,rfl⟩ | simp):OpEv pur run (.c f) xs [] [some r] []:=op_c h hs.2.1 hs.1 hs.2.2.1 hs.2.2.2
theorem oCS(σ:Sto){f:FuncId}{xs:List PV}{r:PV}{s:Sto}(h:E f xs [] r s)(hs:(xs.all PV.free&&xs.all PV.flat)=true∧xs.map PV.Aq0=xs∧r.flat=true∧r.Aq0=r:=by first | exact⟨rfl,rfl,rfl,rfl⟩ | simp):OpEv pur run (.c f) xs σ [some r] σ:=op_c h hs.2.1 hs.1 hs.2.2.1 hs.2.2.2
end Go.Abs.Z

namespace Go.Abs.Z
open Go.Proofs Go.RowKit
noncomputable def runA(n:Nat):Caller:=fun f args σ=>match args,σ with
 |[],[]=>if f=4 then some (.bool true,[]) else run n f [] []
 |args,σ=>run n f args σ
theorem isTrue_ex:∀x:Option (PV×Sto),isTrue x=true→∃s,x=some (.bool true,s)
 |some (.bool true,s),_=>⟨s,rfl⟩
theorem awake_is:∃s,runB 200 4 [] []=some (.bool true,s):=isTrue_ex _ awake_true
theorem aft_drop{P:Program}{f:FuncId}{args:List PV}{r:PV}{s:Sto}(h:AvR P f args [] r s)(hr:∀(I:Imm) (bl:Bl) (w:World) (v:Value),RepT I bl w v r→∀(I':Imm) (bl':Bl) (w':World),RepT I' bl' w' v r):AvR P f args [] r []:=by
 refine⟨h.1,fun n vs w G K ha hp=>(h.2 n vs w G K ha hp).mono ?_⟩
 rintro e w' ⟨v,G',rfl,hv,ha'⟩
 have hbl:G.bl.l=[]:=List.length_eq_zero_iff.1 hp.len;refine⟨v,⟨G'.I,G'.ω,Bl.nil⟩,rfl,hr _ _ _ _ hv _ _ _,⟨ha'.keep,ha'.same,ha'.sub,ha'.new,ha'.lt,ha'.own,ha'.grow,⟨?_,fun id g a h=>?_⟩,ha'.os,ha'.tape,ha'.output,fun id cs h=>by simp at h,rfl,fun id g a h=>by cases h⟩⟩
 ·rw[hbl];exact List.prefix_refl _
 ·have:=hp.abl id g a h;simp at this
set_option maxRecDepth 100000 in
theorem runA_sound(n:Nat):Sound Tryz.prog (runA n):=by
 intro f args σ r σ' hown h;unfold runA at h
 split at h
 ·split at h
  ·rename_i hf;subst hf;cases h;obtain⟨s,hs⟩:=awake_is;refine aft_drop (runB_sound 200 4 [] [] _ s hown hs) fun I bl w v hv I' bl' w'=>?_
   have:=hv.AzM;subst this;exact .one (.inl (.bool true))
  ·exact AXX n f [] [] r σ' hown h
 ·exact AXX n f _ _ r σ' hown h
theorem runA7(n:Nat):runA n 4 [] []=some (.bool true,[]):=rfl
def Runs(af:AFunc)(args:List PV)(σ:Sto)(r:PV)(σ':Sto):Prop:=∃N,∀n,N≤n→AkS pur (runA n) n af args σ=some (r,σ')
theorem ruleL{af:AFunc}{args:List PV}{σ σ':Sto}{r:PV}(l:List Stp)(h:runT pur runA af args σ (AvJ l)=some (r,σ',qOf l True):=by kernel_rfl):Runs af args σ r σ':=by
 have hq:=AwE l trivial
 revert hq h
 generalize qOf l True=q;generalize AvJ l=tp;intro h hq;unfold runT at h;cases hb:(Nat.beq args.length af.nargs&&Nat.ble args.length af.ntmps) with
 |false=>rw[hb] at h;cases h
 |true=>
  rw[hb] at h;cases hx:tRun pur runA af.code (initK args 0) σ tp True with
  |none=>rw[hx] at h;cases h
  |some o=>
   rw[hx] at h;obtain⟨_,hs⟩:=AxI af.code hx;obtain⟨e,f1,s1,t1,q1⟩:=o;dsimp only[cond_true] at h hs
   have fin:∀{e},e=.normal∨e=.ret→AXA pur runA af.code (initK args 0) σ e f1 s1→
     (Option.rec (motive:=fun _=>Option (PV×Sto×Prop)) none (fun vs=>Option.rec (motive:=fun _=>Option (PV×Sto×Prop)) none (fun r=>some (r,s1,q1)) (packR vs)) (resK f1 af.results))=some (r,σ',q)→Runs af args σ r σ':=by
    intro e he hc hh;cases hv:resK f1 af.results with
    |none=>rw[hv] at hh;cases hh
    |some vs=>
     rw[hv] at hh;dsimp only at hh;cases hp:packR vs with
     |none=>rw[hp] at hh;cases hh
     |some p=>
      rw[hp] at hh;cases hh;obtain⟨N,H⟩:=hc;refine⟨N,fun n hn=>?_⟩
      obtain⟨ff1,a1,a2⟩:=H n (by omega) _ (Sub.refl _)
      unfold AkS;rw[hb,a1];have hv':=AXH a2 _ _ hv;rcases he with rfl | rfl
      ·dsimp only[cond_true];rw[hv'];simp[hp]
      ·dsimp only[cond_true];rw[hv'];simp[hp]
   have hq':∀{x},outE e (Option.rec (motive:=fun _=>Option (PV×Sto×Prop)) none (fun vs=>Option.rec (motive:=fun _=>Option (PV×Sto×Prop)) none (fun r=>some (r,s1,q1)) (packR vs)) (resK f1 af.results))=some x→x.2.2=q→q1:=by
    intro x hx hxq;cases e with
    |exit i=>cases hx
    |normal=>
     cases hv:resK f1 af.results with
     |none=>simp only[outE,hv] at hx;cases hx
     |some vs=>
      simp only[outE,hv] at hx;cases hp:packR vs with
      |none=>rw[hp] at hx;cases hx
      |some p=>rw[hp] at hx;cases hx;exact(show q1=q from hxq)▸hq
    |ret=>
     cases hv:resK f1 af.results with
     |none=>simp only[outE,hv] at hx;cases hx
     |some vs=>
      simp only[outE,hv] at hx;cases hp:packR vs with
      |none=>rw[hp] at hx;cases hx
      |some p=>rw[hp] at hx;cases hx;exact(show q1=q from hxq)▸hq
   have h1:=hq' h rfl;cases e with
   |exit i=>cases h
   |normal=>exact fin (.inl rfl) (hs h1) h
   |ret=>exact fin (.inr rfl) (hs h1) h
theorem evA{f:FuncId}{x:PV}{xs:List PV}{r:PV}{s:Sto}(h:E f (x::xs) [] r s):Ev runA f (x::xs) [] r s:=by
 obtain⟨N,H⟩:=h;exact⟨N,fun n hn=>H n hn⟩
theorem evA7:Ev runA 4 [] [] (.bool true) []:=⟨0,fun n _=>runA7 n⟩
abbrev LR:=AjF pur runA
abbrev LM(f:AFunc)(k:Nat):=LR (ml f k) (lc f k)
theorem ruleNR{keep:List Bool}{c:ACode}{ff ffn ff':FF}{σ σn σ':Sto}{e:AExit}(ls:List Nat)(l:List Stp)(hl:AjF pur runA keep c ffn σn e ff' σ')(h:nextT pur runA keep c ls ff σ (AvJ l)=some (ffn,σn,qOf l True):=by kernel_rfl):AjF pur runA keep c ff σ e ff' σ':=loop_next (AwE l trivial) hl h
theorem ruleXR{keep:List Bool}{c:ACode}{ff ff':FF}{σ σ':Sto}{e:AExit}(ls:List Nat)(l:List Stp)(h:leaveT pur runA c ls ff σ (AvJ l)=some (e,ff',σ',qOf l True):=by kernel_rfl):AjF pur runA keep c ff σ e ff' σ':=AK0 (AwE l trivial) h
theorem oCA{f:FuncId}{xs:List PV}{r:PV}{s:Sto}(h:Ev runA f xs [] r s)(hs:(xs.all PV.free&&xs.all PV.flat)=true∧xs.map PV.Aq0=xs∧r.flat=true∧r.Aq0=r:=by first | exact⟨rfl,rfl,rfl,rfl⟩ | simp):OpEv pur runA (.c f) xs [] [some r] []:=op_c h hs.2.1 hs.1 hs.2.2.1 hs.2.2.2
theorem law_ok{f:FuncId}{af:AFunc}{args:List PV}{σ:Sto}(hok:FnOk f af)(ha:∀p∈args,p.Aq0=p)(h:Runs af args [] (.bool true) σ):AvR Tryz.prog f args [] (.bool true) []:=by
 obtain⟨fn,fi,h1,h2,h3,h4⟩:=hok;obtain⟨N,H⟩:=h;refine aft_drop (fn_sound mixed h1 h2 h3 (runA_sound N) ha (AJP h4 (H N (Nat.le_refl _)))) fun I bl w v hv I' bl' w'=>?_
 have:=hv.AzM;subst this;exact .one (.inl (.bool true))
end Go.Abs.Z
