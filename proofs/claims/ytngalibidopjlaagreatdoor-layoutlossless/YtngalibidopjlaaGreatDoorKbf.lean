/- A part of the proof: G8 GL GC GN GD G9 W5 G10 G11 Y5 Y6 W6 D29. -/
import Derived.Test.YtngalibidopjlaaGreatDoorKaw
import Derived.KernelRfl
import Derived.Test.YtngalibidopjlaaGreatDoorKba
import Derived.Test.YtngalibidopjlaaGreatDoorKbe
import Derived.Test.YtngalibidopjlaaGreatDoorKbc

set_option linter.unusedVariables false
set_option linter.unusedSimpArgs false
namespace Go.Abs
open Go.RowKit
section
variable(pur:FuncId→Bool)(R:Nat→Caller)
def CodeEx(c:ACode)(ff:FF)(σ:Sto)(e:AExit)(ff':FF)(σ':Sto):Prop:=∃N,∀n,N≤n→∀m,arunK pur (R n) m c ff σ=some (e,ff',σ')
def OpX(o:AOp)(ff:FF)(σ:Sto)(ff':FF)(σ':Sto):Prop:=∃N,∀n,N≤n→execK pur (R n) o ff σ=some (ff',σ')
end
def AkX:ACode→Bool
 |.seq a b=>AkX a&&AkX b
 |.cond _ a b=>AkX a&&AkX b
 |.block _ c=>AkX c
 |.loop _ _=>false
 |_=>true
section
variable{pur:FuncId→Bool}{R:Nat→Caller}{ff ff':FF}{σ σ':Sto}{tp tp':Tape}{q q':Prop}{e:AExit}
theorem runK_eq{call:Caller}{o:AOp}(he:runK' pur AwN o ff σ=some (ff',σ')):runK' pur call o ff σ=some (ff',σ'):=by
 obtain⟨vs,rs,σ1,h1,h2,h3⟩:=runK_inv he;rw[AQF h1 (AJN h2)];exact h3
theorem execK_eq{call:Caller}{o:AOp}(he:execK pur AwN o ff σ=some (ff',σ')):execK pur call o ff σ=some (ff',σ'):=by
 cases hg:o.guard with
 |none=>rw[AQS hg] at he ⊢;exact runK_eq he
 |some g=>
  cases hw:AzB (getK ff g.1) g.2 with
  |none=>
   unfold execK at he;rw[hg] at he;dsimp only at he;rw[hw] at he;cases he
  |some d=>
   rw[Az3 hg hw] at he ⊢;cases d with
   |true=>exact runK_eq he
   |false=>exact he
theorem tSpec_x{o:AOp}{a:Ans}{x:TO}(h:tSpec pur R o ff σ tp q a=some x):x.q→OpX pur R o ff σ x.ff x.σ:=by
 cases a with
 |br b=>cases h
 |loop ls e f s=>cases h
 |res rs σ1=>
  cases hg:o.guard with
  |some g=>simp only[tSpec,hg] at h;cases h
  |none=>
   simp only[tSpec,hg] at h;cases hv:evalK ff o.args with
   |none=>rw[hv] at h;cases h
   |some vs=>
    rw[hv] at h;obtain⟨ff',σ',h1,rfl⟩:=AjG h;intro hq;obtain⟨N,hN⟩:=hq.1;refine⟨N,fun n hn=>?_⟩
    rw[AQS hg,AQF hv (hN n hn)];exact h1
 |grd d=>
  cases hg:o.guard with
  |none=>simp only[tSpec,hg] at h;cases h
  |some g=>
   simp only[tSpec,hg] at h;obtain⟨ff',σ',h1,rfl⟩:=AjG h;intro hq;refine⟨0,fun n _=>?_⟩
   rw[Az3 hg hq.1];cases d with
   |true=>exact runK_eq h1
   |false=>exact h1
 |grdr rs σ1=>
  cases hg:o.guard with
  |none=>simp only[tSpec,hg] at h;cases h
  |some g=>
   simp only[tSpec,hg] at h;cases hv:evalK ff o.args with
   |none=>rw[hv] at h;cases h
   |some vs=>
    rw[hv] at h;obtain⟨ff',σ',h1,rfl⟩:=AjG h;intro hq;obtain⟨N,hN⟩:=hq.1;refine⟨N,fun n hn=>?_⟩
    rw[Az3 hg hq.2.1,cond_true,AQF hv (hN n hn)];exact h1
theorem tOp_x{o:AOp}:∀{x:TO},tOp pur R o ff σ tp q=some x→x.q→OpX pur R o ff σ x.ff x.σ:=by
 unfold tOp;refine AkP (fun r=>∀{x:TO},r=some x→x.q→OpX pur R o ff σ x.ff x.σ) (fun t {x} h=>?_) (fun t a {x} h=>tSpec_x h)
 obtain⟨ff',σ',h1,rfl⟩:=AjG h;exact fun _=>⟨0,fun n _=>execK_eq h1⟩
theorem tOps_x:∀(os:List AOp) {ff:FF} {σ:Sto} {tp:Tape} {q:Prop} {x:TO},tOps pur R os ff σ tp q=some x→x.q→CodeEx pur R (.region os) ff σ x.e x.ff x.σ
 |[],ff,σ,tp,q,x,h=>by cases h;exact fun _=>⟨0,fun n _ m=>rfl⟩
 |o::os,ff,σ,tp,q,x,h=>by
  have h':bindT (tOp pur R o ff σ tp q) (tOps pur R os)=some x:=h;obtain⟨y,hy,hc⟩:=AQ2 h';have e1:=(tOp_sound hy).1;rcases hc with⟨_,hk⟩ | ⟨hne,_⟩
  ·intro hx;obtain⟨N1,H1⟩:=tOp_x hy ((AQA os hk).1 hx);obtain⟨N2,H2⟩:=tOps_x os hk hx;refine⟨max N1 N2,fun n hn m=>?_⟩
   show opsK pur (R n) (o::os) ff σ=_;rw[opsK_cons,H1 n (by omega)];exact H2 n (by omega) m
  ·exact absurd e1 hne
theorem tRun_x:∀(c:ACode),AkX c=true→∀{ff:FF} {σ:Sto} {tp:Tape} {q:Prop} {x:TO},tRun pur R c ff σ tp q=some x→x.q→CodeEx pur R c ff σ x.e x.ff x.σ:=by
 intro c
 induction c with
 |skip=>intro _ ff σ tp q x h;cases h;exact fun _=>⟨0,fun n _ m=>rfl⟩
 |region ops=>intro _ ff σ tp q x h;exact tOps_x ops h
 |exit i=>intro _ ff σ tp q x h;cases h;exact fun _=>⟨0,fun n _ m=>rfl⟩
 |ret=>intro _ ff σ tp q x h;cases h;exact fun _=>⟨0,fun n _ m=>rfl⟩
 |loop k c _=>intro h;cases h
 |seq a b iha ihb=>
  intro hl ff σ tp q x h;rw[AkX,Bool.and_eq_true] at hl;have h':bindT (tRun pur R a ff σ tp q) (tRun pur R b)=some x:=h;obtain⟨y,hy,hc⟩:=AQ2 h';have hseq:∀n m,arunK pur (R n) m (.seq a b) ff σ=Option.rec (motive:=fun _=>RX) none (fun r=>cond (AxL r.1) (arunK pur (R n) m b r.2.1 r.2.2) (some r)) (arunK pur (R n) m a ff σ):=fun _ _=>rfl
  rcases hc with⟨he,hk⟩ | ⟨hne,rfl⟩
  ·intro hx;obtain⟨N1,H1⟩:=iha hl.1 hy ((AxI b hk).1 hx);obtain⟨N2,H2⟩:=ihb hl.2 hk hx;rw[he] at H1;refine⟨max N1 N2,fun n hn m=>?_⟩
   rw[hseq,H1 n (by omega) m];exact H2 n (by omega) m
  ·intro hx;obtain⟨N1,H1⟩:=iha hl.1 hy hx;refine⟨N1,fun n hn m=>?_⟩
   rw[hseq,H1 n hn m];obtain⟨e,f,s,t,qq⟩:=y;cases e with
   |normal=>exact absurd rfl hne
   |exit i=>rfl
   |ret=>rfl
 |cond c a b iha ihb=>
  intro hl ff σ tp q x h;rw[AkX,Bool.and_eq_true] at hl;have hcond:∀n m,arunK pur (R n) m (.cond c a b) ff σ=condK (evalK ff [c]) (arunK pur (R n) m a ff σ) (arunK pur (R n) m b ff σ):=fun _ _=>rfl
  have key:∀(bb:Bool) (t:Tape) (qq:Prop),evalK ff [c]=some [.bool bb]→cond bb (tRun pur R a ff σ t qq) (tRun pur R b ff σ t qq)=some x→x.q→CodeEx pur R (.cond c a b) ff σ x.e x.ff x.σ:=by
   intro bb t qq hv hx hq;cases bb with
   |true=>
    obtain⟨N,H⟩:=iha hl.1 hx hq;refine⟨N,fun n hn m=>?_⟩
    rw[hcond,hv];exact H n hn m
   |false=>
    obtain⟨N,H⟩:=ihb hl.2 hx hq;refine⟨N,fun n hn m=>?_⟩
    rw[hcond,hv];exact H n hn m
  have h':tCond c (tRun pur R a) (tRun pur R b) ff σ tp q=some x:=h
  revert h'
  unfold tCond;refine AkP (fun r=>r=some x→x.q→CodeEx pur R (.cond c a b) ff σ x.e x.ff x.σ) (fun t hx=>?_) (fun t an hx=>?_)
  ·split at hx
   ·rename_i bb hv;exact key bb t q hv hx
   ·cases hx
  ·cases an with
   |br bb=>
    have hx':cond bb (tRun pur R a ff σ t (evalK ff [c]=some [.bool bb]∧q)) (tRun pur R b ff σ t (evalK ff [c]=some [.bool bb]∧q))=some x:=hx
    have hq:x.q→(evalK ff [c]=some [.bool bb]∧q):=by
     cases bb with
     |true=>exact(AxI a hx').1
     |false=>exact(AxI b hx').1
    exact fun hq'=>key bb t _ (hq hq').1 hx' hq'
   |_=>cases hx
 |block id c ih=>
  intro hl ff σ tp q x h;have hl':AkX c=true:=hl;have h':tBlock id (tRun pur R c ff σ tp q)=some x:=h;have hb:∀n m,arunK pur (R n) m (.block id c) ff σ=Option.rec (motive:=fun _=>RX) none (fun r=>AExit.rec (motive:=fun _=>RX) (some r) (fun i=>cond (Nat.beq i id) (some (.normal,r.2)) (some r)) (some r) r.1) (arunK pur (R n) m c ff σ):=fun _ _=>rfl
  cases hr:tRun pur R c ff σ tp q with
  |none=>rw[hr] at h';cases h'
  |some y=>
   rw[hr] at h';have ho:=ih hl' hr;obtain⟨e,f,s,t,qq⟩:=y;cases e with
   |normal=>
    cases h';intro hq;obtain⟨N,H⟩:=ho hq;exact⟨N,fun n hn m=>by rw[hb,H n hn m]⟩
   |ret=>
    cases h';intro hq;obtain⟨N,H⟩:=ho hq;exact⟨N,fun n hn m=>by rw[hb,H n hn m]⟩
   |exit i=>
    have h'':cond (Nat.beq i id) (some (⟨.normal,f,s,t,qq⟩:TO)) (some ⟨.exit i,f,s,t,qq⟩)=some x:=h';cases hi:Nat.beq i id with
    |true=>
     rw[hi] at h'';cases h'';intro hq;obtain⟨N,H⟩:=ho hq;exact⟨N,fun n hn m=>by rw[hb,H n hn m];dsimp only;rw[hi];rfl⟩
    |false=>
     rw[hi] at h'';cases h'';intro hq;obtain⟨N,H⟩:=ho hq;exact⟨N,fun n hn m=>by rw[hb,H n hn m];dsimp only;rw[hi];rfl⟩
end
end Go.Abs

namespace Go.Abs.Z
open Go.Proofs Go.RowKit
noncomputable def exG(ac:ACode)(A:Frm)(σ:Sto)(tp:Tape):Option (AExit×Frm×Sto×Prop):=
 cond (Az9 A.length ac&&AkX ac) ((tRun pur run ac (ofF A 0) σ tp True).map fun x=>(x.e,toF x.ff A.length,x.σ,x.q)) none
def FEx(ac:ACode)(A:Frm)(σ:Sto)(e:AExit)(A':Frm)(σ':Sto):Prop:=∃N,∀n,N≤n→∀m,runF pur (run n) m ac A σ=some (e,A',σ')
theorem AxV{ac:ACode}{A A':Frm}{σ σ':Sto}{e:AExit}(l:List Stp)(h:exG ac A σ (AvJ l)=some (e,A',σ',qOf l True):=by kernel_rfl):FEx ac A σ e A' σ':=by
 have hq:=AwE l trivial
 revert hq h
 generalize qOf l True=q;generalize AvJ l=tp;intro h hq;unfold exG at h;cases hb:(Az9 A.length ac&&AkX ac) with
 |false=>rw[hb] at h;cases h
 |true=>
  rw[hb] at h;rw[Bool.and_eq_true] at hb;obtain⟨x,hx,he⟩:=Option.map_eq_some_iff.1 h;cases he;obtain⟨N,H⟩:=tRun_x ac hb.2 hx hq;refine⟨N,fun n hn m=>?_⟩
  unfold runF;rw[hb.1,H n hn m];rfl
end Go.Abs.Z

namespace Go.Abs.Z
open Go.Proofs Go.RowKit
def nn(k:Nat):Frm:=List.replicate k none
theorem cnt_p1(T:Tr)(σ:Sto):FEx (lf7.pre.getD 0 .skip) (some T.pv::nn 9) σ .normal (some T.pv::some (.vptr T.pv)::some (.int .i64 0)::nn 7) σ:=
 AxV [st 0 (PS σ (bx_tr T))]
theorem cnt_p2(T:Tr)(σ:Sto):FEx (lf7.pre.getD 1 .skip) (some T.pv::some (.vptr T.pv)::some (.int .i64 0)::nn 7) σ .normal (some T.pv::some (.vptr T.pv)::some (.int .i64 0)::some (.int .i64 0)::nn 6) σ:=
 AxV []
theorem R20:Rn 20 a20:=fun _ _ _=>rfl
theorem r20(T:Tr):E 20 [T.pv] [] (.func 74 [] [.vptr T.pv]) []:=rule R20 [st 0 (P (bx_tr T))]
theorem cnt_rg(T:Tr)(σ:Sto):FEx lf7.rg (some T.pv::some (.vptr T.pv)::some (.int .i64 0)::some (.int .i64 0)::nn 6) σ .normal (some T.pv::some (.vptr T.pv)::some (.int .i64 0)::some (.int .i64 0)::some T.pv::some (.func 74 [] [.vptr T.pv])::nn 4) σ:=
 AxV [st 0 (QS σ (ld_tr T)),st 0 (op_c (vs:=[T.pv]) (σ:=σ) (r':=.func 74 [] [.vptr T.pv]) (r20 T) (by simp[T.AxT]) (by simp[T.AzW,T.pv_flat]) rfl (by simp[PV.Aq0,T.AxT]))]
end Go.Abs.Z

namespace Go.Abs.Z
mutual
theorem Tr.Az0:∀T:Tr,T.pv.noMap=true
 |.mk k t a e n ks=>by
  have h:=Tr.AwG ks;cases n
  ·simp[Tr.pv,PV.noMap,PV.AqI,h]
  ·simp[Tr.pv,PV.noMap,PV.AqI]
theorem Tr.AwG:∀l:List Tr,PV.AqI (Tr.pvs l)=true
 |[]=>rfl
 |T::l=>by simp[Tr.pvs,PV.AqI,Tr.Az0 T,Tr.AwG l]
end
end Go.Abs.Z

namespace Go.Abs.Z
open Go.Proofs Go.RowKit
theorem Ax8{p:PV}(h:p.noMap=true):AxU p=false:=by simp[AxU,h]
def cF(T:Tr)(j:Nat):Frm:=some T.pv::some (.vptr T.pv)::some (.int .i64 0)::some (N j)::some T.pv::some (.func 74 [] [.vptr T.pv])::nn 4
theorem cnt_skip(T x:Tr)(σ:Sto)(j:Nat):FEx lf7.aca (some T.pv::some (.vptr T.pv)::some (.int .i64 0)::some (N j)::some T.pv::some (.func 74 [] [.vptr T.pv])::some x.pv::nn 3) σ .normal (some T.pv::some (.vptr T.pv)::some (.int .i64 0)::some (N j)::some T.pv::some (.func 74 [] [.vptr T.pv])::some x.pv::nn 3) σ:=
 AxV []
theorem cnt_body(T x:Tr)(σ:Sto)(j:Nat)(h:j<2000000000):FEx lf7.ac (some T.pv::some (.vptr T.pv)::some (.int .i64 0)::some (N j)::some T.pv::some (.func 74 [] [.vptr T.pv])::some x.pv::nn 3) σ .normal
  (some T.pv::some (.vptr T.pv)::some (.int .i64 0)::some (N (j+1))::some T.pv::some (.func 74 [] [.vptr T.pv])::some x.pv::some (N j)::some (N (j+1))::nn 1) σ:=
 AxV [st 1 (PS σ (Aq4 j 1 h (by decide)))]
theorem AzV{σ:Sto}(hσ:σ.all PV.AqI=true)(A:Frm)(hA:A.all (fun v=>match v with | some p=>p.noMap | none=>true)=true):quiet A σ=true:=by
 unfold quiet;rw[Bool.and_eq_true];exact⟨hA,hσ⟩
theorem cnt_round(T x:Tr)(σ:Sto)(hσ:σ.all PV.AqI=true)(j:Nat)(h:j<2000000000):
  ∃N,∀n,N≤n→∀m,AvN pur (run n) m lf7.aca lf7.ac lf7.La lf7.L (nn 10) lf7.ds [x.pv] (cF T j) σ=some (cF T (j+1),σ):=by
 obtain⟨N1,H1⟩:=cnt_skip T x σ j;obtain⟨N2,H2⟩:=cnt_body T x σ j h;refine⟨max N1 N2,fun n hn m=>?_⟩
 unfold AvN;rw[show AZY lf7.ds [x.pv] (cF T j)=some T.pv::some (.vptr T.pv)::some (.int .i64 0)::some (N j)::some T.pv::some (.func 74 [] [.vptr T.pv])::some x.pv::nn 3 from rfl,H1 n (by omega) m]
 dsimp only
 have k1:keepF lf7.La (some T.pv::some (.vptr T.pv)::some (.int .i64 0)::some (N j)::some T.pv::some (.func 74 [] [.vptr T.pv])::some x.pv::nn 3)=some T.pv::some (.vptr T.pv)::some (.int .i64 0)::some (N j)::some T.pv::some (.func 74 [] [.vptr T.pv])::some x.pv::nn 3:=by
  have e1:=T.AzW;have e2:=x.AzW;simp only[keepF,lf7,nn,List.zipWith,Option.filter,e1,e2];rfl
 have k2:keepF lf7.L (some T.pv::some (.vptr T.pv)::some (.int .i64 0)::some (N (j+1))::some T.pv::some (.func 74 [] [.vptr T.pv])::some x.pv::some (N j)::some (N (j+1))::nn 1)=cF T (j+1):=by
  have e1:=T.AzW;simp only[keepF,lf7,nn,List.zipWith,Option.filter,e1];rfl
 have q1:quiet (hideF (nn 10) (some T.pv::some (.vptr T.pv)::some (.int .i64 0)::some (N j)::some T.pv::some (.func 74 [] [.vptr T.pv])::some x.pv::nn 3)) σ=true:=by
  refine AzV hσ _ ?_
  have e1:=T.Az0;have e2:=x.Az0;simp[hideF,nn,PV.noMap,PV.AqI,e1,e2,N]
 have q2:quiet (hideF (nn 10) (cF T (j+1))) σ=true:=by
  refine AzV hσ _ ?_
  have e1:=T.Az0;simp[hideF,cF,nn,PV.noMap,PV.AqI,e1,N]
 rw[k1,if_pos ⟨q1,rfl⟩,show fillF (nn 10) (some T.pv::some (.vptr T.pv)::some (.int .i64 0)::some (N j)::some T.pv::some (.func 74 [] [.vptr T.pv])::some x.pv::nn 3)=some T.pv::some (.vptr T.pv)::some (.int .i64 0)::some (N j)::some T.pv::some (.func 74 [] [.vptr T.pv])::some x.pv::nn 3 from rfl,H2 n (by omega) m]
 dsimp only;rw[k2,if_pos ⟨q2,rfl⟩];rfl
theorem cnt_iter(T:Tr)(σ:Sto)(hσ:σ.all PV.AqI=true):∀(L:List Tr) (j:Nat),j+L.length<2000000000→
  ∃N,∀n,N≤n→∀m,iterL pur (run n) m lf7.aca lf7.ac lf7.La lf7.L (nn 10) lf7.ds (L.map fun x=>[x.pv]) (cF T j) σ=some (cF T (j+L.length),σ)
 |[],j,h=>⟨0,fun n _ m=>rfl⟩
 |x::L,j,h=>by
  rw[List.length_cons] at h;obtain⟨N1,H1⟩:=cnt_round T x σ hσ j (by omega)
  obtain⟨N2,H2⟩:=cnt_iter T σ hσ L (j+1) (by omega)
  refine⟨max N1 N2,fun n hn m=>?_⟩
  rw[List.map_cons,iterL,H1 n (by omega) m]
  dsimp only;rw[H2 n (by omega) m,List.length_cons,show j+1+L.length=j+(L.length+1) from by omega]
theorem run7(n:Nat)(args:List PV)(σ:Sto):run (n+1) 7 args σ=runLF pur itr 1000 lf7 (run n) args σ:=rfl
theorem loopF_go{call:Caller}{m:Nat}{f:LFn}{A X A2 A3:Frm}{σ σ2 σ3:Sto}{gf:FuncId}{caps:List PV}{xs:List (List PV)}{e:AExit}{r:PV×Sto}
  (hg:A.get f.g=some (.func gf [] caps)) (hi:itr gf caps=some xs) (hX:keepX f.Lv A=X)
  (hc:quiet (hideF X (keepF f.L A)) σ=true∧A.length=f.L.length∧f.Lv.length=f.L.length∧f.Lr.length=f.L.length∧caps.all PV.flat=true∧xs.all (fun x=>x.length==f.nps)=true)
  (h1:iterL pur call m f.aca f.ac f.La f.L X f.ds xs (fillF X (keepF f.L A)) σ=some (A2,σ2)) (h2:runF pur call m f.post A2 σ2=some (e,A3,σ3))
  (h3:(e=.normal∨e=.ret)∧quiet (hideF X (keepF f.Lr A3)) σ3=true∧A3.length=f.Lr.length) (h4:endF f (hideF X (keepF f.Lr A3)) σ3=some r):loopF pur call itr m f A σ=some r:=by
 subst hX;unfold loopF;rw[hg];dsimp only;rw[hi];dsimp only;rw[if_pos hc,h1];dsimp only;rw[h2];dsimp only;rw[if_pos h3,h4]
theorem e7(T:Tr)(σ:Sto)(hσ:σ.all PV.AqI=true){L:List Tr}(hL:nodeL 1000000 T.pv=some (L.map Tr.pv))(hs:L.length≤1000000000):E 7 [T.pv] σ (N L.length) σ:=by
 obtain⟨N1,H1⟩:=cnt_p1 T σ;obtain⟨N2,H2⟩:=cnt_p2 T σ;obtain⟨N3,H3⟩:=cnt_rg T σ;obtain⟨N4,H4⟩:=cnt_iter T σ hσ L 0 (by omega)
 obtain⟨N5,H5⟩:FEx lf7.post (cF T (0+L.length)) σ .ret (some T.pv::some (.vptr T.pv)::some (N (0+L.length))::some (N (0+L.length))::some T.pv::some (.func 74 [] [.vptr T.pv])::none::none::none::[some (N (0+L.length))]) σ:=AxV [];refine AwX (max N1 (max N2 (max N3 (max N4 N5)))) fun n hn=>?_
 rw[run7]
 have hp:preF pur (run n) 1000 lf7.pre ([T.pv].map some++List.replicate (lf7.ntmps+lf7.extra - [T.pv].length) none) σ=some (.normal,some T.pv::some (.vptr T.pv)::some (.int .i64 0)::some (.int .i64 0)::nn 6,σ):=by
  show preF pur (run n) 1000 [lf7.pre.getD 0 .skip,lf7.pre.getD 1 .skip] (some T.pv::nn 9) σ=_;rw[preF,H1 n (by omega) 1000]
  dsimp only;rw[preF,H2 n (by omega) 1000]
  rfl
 have hx:keepX lf7.Lv (cF T 0)=nn 10:=by
  have e1:=Ax8 T.Az0;have e2:AxU (.vptr T.pv)=false:=Ax8 (by simp[PV.noMap,T.Az0])
  have e3:AxU (.func 74 [] [.vptr T.pv])=false:=Ax8 (by simp[PV.noMap,PV.AqI,T.Az0])
  simp only[keepX,lf7,cF,nn,List.zipWith,Option.filter,e1,e2,e3];rfl
 have hi:itr 74 [.vptr T.pv]=some ((L.map Tr.pv).map fun x=>[x.Aq0]):=by
  unfold itr;rw[if_pos rfl];dsimp only;rw[hL];dsimp only;rw[if_pos (by simp[small,hs])]
 have hdis:((L.map Tr.pv).map fun x=>[x.Aq0])=L.map fun x=>[x.pv]:=by
  rw[List.map_map];exact List.map_congr_left fun x _=>by show[x.pv.Aq0]=_;rw[x.AxT]
 rw[runLF,if_pos ⟨rfl,by show 1≤10;decide⟩,hp]
 dsimp only;rw[H3 n (by omega) 1000]
 dsimp only
 have k0:keepF lf7.L (cF T 0)=cF T 0:=by
  have e1:=T.AzW;simp only[keepF,lf7,cF,nn,List.zipWith,Option.filter,e1];rfl
 have q0:quiet (hideF (nn 10) (keepF lf7.L (cF T 0))) σ=true:=by
  rw[k0];refine AzV hσ _ ?_
  have e1:=T.Az0;simp[hideF,cF,nn,PV.noMap,PV.AqI,e1,N]
 refine loopF_go (f:=lf7) (A:=cF T 0) (X:=nn 10) rfl (hi.trans (congrArg some hdis)) hx ⟨q0,rfl,rfl,rfl,rfl,by simp<;>(intros;rfl)⟩ (by rw[k0];exact H4 n (by omega) 1000) (H5 n (by omega) 1000) ⟨.inr rfl,?_,rfl⟩ ?_
 ·refine AzV hσ _ ?_
  have e1:=T.Az0;have e2:=T.AzW;simp only[keepF,lf7,nn,List.zipWith,Option.filter,e2];simp[hideF,PV.noMap,PV.AqI,PV.free,e1,N]
 ·have e2:=T.AzW;simp only[keepF,lf7,nn,List.zipWith,Option.filter,e2];rw[Nat.zero_add];rfl
end Go.Abs.Z

namespace Go.Abs.Z
open Go.Proofs Go.RowKit
theorem ldf_kp(T:Tr)(d:Nat):semP (.ldf d 1 false) [.lref d 4,T.pv]=some [some T.kp]:=by
 show(if d=d then _ else _)=_
 rw[if_pos rfl,Tr.pv_nd];obtain⟨k,t,a,e,n,ks⟩:=T;cases n<;>rfl
def srV(s:List UInt8)(T:Tr)(ts:List Tk)(w:Bool):PV:=.agg [.str s,.int .i64 T.kind,.str T.text,.int .i64 T.st,.int .i64 T.en,T.kp,.slice false 4 (ts.map Tk.pv),.bool w]
section
variable(s:List UInt8)(T:Tr)(ts:List Tk)(w:Bool)
theorem AjR:(srV s T ts w).Aq0=srV s T ts w:=by unfold srV;simp
theorem sr_free:(srV s T ts w).free=true:=rfl
theorem sr_flat:(srV s T ts w).flat=true:=rfl
theorem sr_flat0:(srV s T ts w).flat0=true:=rfl
theorem sr_ones:(srV s T ts w).ones=true:=by obtain⟨k,t,a,e,n,ks⟩:=T;cases n<;>rfl
theorem sr_cells:(srV s T ts w).cells.length=8:=rfl
theorem sr_okc:(srV s T ts w).okc=true:=rfl
theorem sr_ok:resOk (srV s T ts w) (some 8)=true:=by obtain⟨k,t,a,e,n,ks⟩:=T;cases n<;>rfl
theorem AQ9:∀ts:List Tk,PV.AqI (ts.map Tk.pv)=true
 |[]=>rfl
 |t::ts=>by rw[List.map_cons,PV.AqI,AQ9 ts];rfl
theorem kp_noMap:T.kp.noMap=true:=by
 obtain⟨k,t,a,e,n,ks⟩:=T;cases n
 ·show PV.AqI (Tr.pvs ks)=true;exact Tr.AwG ks
 ·rfl
theorem sr_noMap:(srV s T ts w).noMap=true:=by
 unfold srV;simp[PV.noMap,PV.AqI,kp_noMap,AQ9]
end
attribute [simp] AjR sr_free sr_flat sr_flat0 sr_ones sr_cells sr_okc sr_ok
theorem sti_sr(s:List UInt8)(T:Tr)(ts:List Tk)(w:Bool):semP (.sti 8) [.hole 8,srV s T ts w]=some [some (.vptr (srV s T ts w))]:=by
 show(if _ then _ else _)=_
 rw[if_pos ⟨rfl,sr_cells ..,sr_flat ..,sr_ones ..⟩,AjR]
theorem ld_sr{σ:Sto}(s:List UInt8)(T:Tr)(ts:List Tk)(w:Bool):semR (.ld 8 true) [.vptr (srV s T ts w)] σ=some [some (srV s T ts w)]:=ld_of rfl (sr_free ..) (AjR ..)
theorem bx_sr(s:List UInt8)(T:Tr)(ts:List Tk)(w:Bool):semP .bx [srV s T ts w]=some [some (.vptr (srV s T ts w))]:=bx_of (sr_flat ..) (AjR ..)
theorem build_sr(s:List UInt8)(T:Tr)(ts:List Tk)(w:Bool):semP (.build [.str [],.int .i64 0,.str [],.int .i64 0,.int .i64 0,.nils,.nils,.bool false] [(0,1),(1,5),(6,1),(7,1)]) [.str s,T.pv,.slice false 4 (ts.map Tk.pv),.bool w]=some [some (srV s T ts w)]:=build_of (by obtain⟨k,t,a,e,n,ks⟩:=T;cases n<;>rfl)
theorem stl_sr(s:List UInt8)(T:Tr)(ts:List Tk)(w:Bool)(a b c d e f g h:PV):semP (.stl 0 8) [.agg [a,b,c,d,e,f,g,h],srV s T ts w]=some [some (srV s T ts w)]:=
 stl_of (sr_cells ..) (sr_okc ..) (sr_ones ..) (by rw[AjR];rfl)
theorem ext_sr(s:List UInt8)(T:Tr)(ts:List Tk)(w b:Bool):semP (.ext 0) [.tuple [srV s T ts w,.bool b]]=some [some (srV s T ts w)]:=Av3 0 rfl ⟨rfl,AjR ..⟩
theorem AkJ{l:List PV}(i:Nat){v:PV}(h:l[i]?=some v)(hf:l.all PV.free=true)(hd:v.Aq0=v):semP (.ext i) [.tuple l]=some [some v]:=Av3 i h ⟨hf,hd⟩
theorem op_wcz{f:FuncId}{vs zs:List PV}{σ σ1 σ2:Sto}{r r':PV}(h:E f zs σ r σ1)(hv:vs.map PV.Aq0=zs)(hf:vs.all PV.free=true)(hz:frzV r σ1=some (r',σ2)):OpEv pur run (.w (.callz f)) vs σ [some r'] σ2:=by
 obtain⟨N,H⟩:=h;refine⟨N,fun n hn=>?_⟩
 show(if vs.all PV.free then _ else _)=_
 rw[if_pos hf,hv,H n hn,Option.bind_some];show(frzV r σ1).map _=_;rw[hz];rfl
theorem len_accm{α:Type}(z:Nat)(f:α→PV)(l:List α):semP (.len false) [accD z (l.map f)]=some [some (N l.length)]:=by rw[len_accd,List.length_map]
theorem idx_accm{α:Type}{z:Nat}{f:α→PV}{l:List α}{x:α}(j:Nat)(h:l[j]?=some x):semP (.idx z) [accD z (l.map f),N j]=some [some (.vptr (f x))]:=by
 cases l with
 |nil=>cases h
 |cons y l=>exact p_idx _ _ _ _ _ (by show(List.map f (y::l))[j]?=_;rw[List.getElem?_map,h];rfl)
def stP(V:PV)(w:List UInt8)(K:PV):Sto:=[[.bld 120 5 w],[K],[.func 82 [] [.ref 1 0,.ref 0 0,.vptr V]]]
theorem e83{w p:List UInt8}{V K:PV}(h:w.length+p.length≤4294967296):E 83 [.ref 0 0,.str p] (stP V w K) (.tuple [N p.length,.nili]) (stP V (w++p) K):=by
 refine AwX 0 fun n _=>?_
 show pWrite (run n) [.ref 0 0,.str p] (stP V w K)=_;show(if 120=120∧5=5∧w.length+p.length≤4294967296 then _ else _)=_
 rw[if_pos ⟨rfl,rfl,h⟩];rfl
theorem vsl_trs(k:Tr)(ks:List Tr):semP (.vsl 5 true false) [.slice false 5 (Tr.pvs (k::ks)),I 1]=some [some (.slice false 5 (Tr.pvs ks))]:=by
 show(if 5=5 then(cutB true false (Tr.pvs (k::ks)).length [I 1]).map (fun(l,h)=>[some (PV.slice false 5 (((Tr.pvs (k::ks)).drop l).take (h - l)))]) else none)=_
 rw[if_pos rfl];show(if(0:Int)≤1∧(1:Int)≤((Tr.pvs (k::ks)).length:Nat) then some ((1:Int).toNat,(Tr.pvs (k::ks)).length) else none).map _=_
 rw[if_pos ⟨by decide,by simp only[Tr.pvs,List.length_cons];omega⟩]
 show some [some (PV.slice false 5 (((Tr.pvs (k::ks)).drop 1).take ((Tr.pvs (k::ks)).length - 1)))]=_;simp[Tr.pvs]
end Go.Abs.Z

namespace Go.Abs.Z
open Go.Proofs Go.RowKit
set_option linter.unusedVariables false
set_option linter.unusedSimpArgs false
theorem RY76:Rn 76 a76:=fun _ _ _=>rfl
theorem y76(T:Tr)(h:E 145 [T.kp,T.kp,(.func 76 [] [])] [] (.bool true) []):E 76 [T.pv,T.pv] [] (.bool true) []:=
 rule RY76 [st 0 (P (bx_tr T)),st 0 (P (bx_tr T)),st 1 (P (fa_tr0 T)),st 1 (P (fa_tr0 T)),st 1 (P (AqR .i64 (rfl:T.kind=T.kind))),sg 1 (P (fa_tr1 T)),sg 1 (P (fa_tr1 T)),sg 1 (P (AQX (rfl:T.text=T.text))),sg 2 (P (fa_tr2 T)),sg 1 (P (fa_tr2 T)),sg 1 (P (AqR .i64 (rfl:T.st=T.st))),sg 2 (P (fa_tr3 T)),sg 1 (P (fa_tr3 T)),sg 1 (P (AqR .i64 (rfl:T.en=T.en))),sg 2 (P (fa_tr4 T)),sg 0 (Q (ld_kp T)),sg 0 (P (fa_tr4 T)),sg 0 (Q (ld_kp T)),sg 0 (oC h ⟨by simp<;>rfl,by simp,rfl,rfl⟩)]
theorem RY145:Rn 145 a145:=fun _ _ _=>rfl
theorem y145{T:Tr}(w:T.wf)(h:LL a145 0 [(1,some T.kp),(2,some (.func 76 [] [])),(15,some T.kp),(16,some (N T.kids.length)),(17,some (N 0))] [] (.exit 0) [] []):E 145 [T.kp,T.kp,(.func 76 [] [])] [] (.bool true) []:=
 rule RY145 [st 1 (P (mv_kp T)),st 0 (P (len_kp w)),st 0 (P (mv_kp T)),st 0 (P (len_kp w)),st 0 (P (AQ4 .i64 (rfl:((T.kids.length:Nat):Int)=((T.kids.length:Nat):Int)))),st 1 (P (mv_kp T)),st 0 (P (len_kp w)),sl 1 [1,2,15,16,17] h]
theorem y145n{T U:Tr}{j:Nat}(w:T.wf)(hj:j<T.kids.length)(hU:T.kids[j]?=some U)(h:E 76 [U.pv,U.pv] [] (.bool true) [])(l:j<2000000000){e:AExit}{ff1:FF}{σ1:Sto}(hl:LL a145 0 [(1,some T.kp),(2,some (.func 76 [] [])),(15,some T.kp),(16,some (N T.kids.length)),(17,some (N (j+1)))] [] e ff1 σ1):LL a145 0 [(1,some T.kp),(2,some (.func 76 [] [])),(15,some T.kp),(16,some (N T.kids.length)),(17,some (N j))] [] e ff1 σ1:=
 ruleN [1,2,15,16,17] [st 0 (P (Aq6 .i64 (show(j:Int) < ((T.kids.length:Nat):Int) by omega))),st 2 (P (idx_kp j w hU)),st 0 (Q (ld_tr U)),st 2 (P (AqN U)),st 0 (P (mv_kp T)),st 1 (P (idx_kp j w hU)),st 0 (Q (ld_tr U)),st 1 (P (AqN U)),st 1 (Q (ld_tr U)),st 0 (Q (ld_tr U)),st 0 (AkV h rfl (by simp) (by simp) (by simp) rfl rfl:OpEv pur run (.w .calld) [(.func 76 [] []),U.pv,U.pv] [] [some (.bool true)] []),st 2 (P (Aq4 j 1 l (by decide)))] hl
theorem y145x{T:Tr}{j:Nat}(hj:¬j<T.kids.length):LL a145 0 [(1,some T.kp),(2,some (.func 76 [] [])),(15,some T.kp),(16,some (N T.kids.length)),(17,some (N j))] [] (.exit 0) [] []:=
 ruleX [] [st 0 (P (AqJ .i64 (show ¬(j:Int) < ((T.kids.length:Nat):Int) by omega)))]
theorem RY25:Rn 25 a25:=fun _ _ _=>rfl
theorem y25(s:List UInt8)(T x:Tr)(ts:List Tk)(w:Bool):E 25 [srV s T ts w,x.pv] [] (.func 78 [] [.vptr (srV s T ts w),.vptr x.pv]) []:=
 rule RY25 [st 0 (P (bx_sr s T ts w)),st 0 (P (bx_tr x))]
theorem RY24:Rn 24 a24:=fun _ _ _=>rfl
theorem y24{cs:List PV}{r r':PV}{σ σ':Sto}(h:E 77 [.nils,.func 78 [] cs] [] r σ)(hz:frzV r σ=some (r',σ'))(hf:semP .mv [r']=some [some r'])(ho:r'.free=true∧r'.Aq0=r'):E 24 [.func 78 [] cs] [] r' σ':=
 ruleO RY24 [st 2 (op_wcz (vs:=[.nils,.func 78 [] cs]) h rfl rfl hz),st 0 (PS σ' hf)] (by simp[AxZ,packR,ho]:(resK [(2,some r')] [(2,none)]).bind packR=some r')
theorem RY21:Rn 21 a21:=fun _ _ _=>rfl
theorem y21{s:List UInt8}{T:Tr}{ts:List Tk}{D:List PV}{w:Bool}(hw:w=decide (((D.length:Nat):Int) > 0))(h5:E 5 [.str s] [] (.tuple [T.pv,accD 5 D,I 0]) [])(h6:E 6 [.str s] [] (.tuple [.slice false 4 (ts.map Tk.pv),I 0]) [])(h76:E 76 [T.pv,T.pv] [] (.bool true) []):E 21 [.str s,T.pv] [] (.tuple [srV s T ts w,.bool true]) []:=
 ruleO RY21 [st 0 (P (bx_tr T)),st 3 (op_c (σ:=[]) (vs:=[.str s]) (r':=.tuple [T.pv,accD 5 D,I 0]) h5 rfl rfl (by simp) rfl),st 0 (P (mv_of (v:=.tuple [T.pv,accD 5 D,I 0]) rfl rfl)),st 0 (P (AkJ (l:=[T.pv,accD 5 D,I 0]) 0 (v:=T.pv) rfl (by simp) (by simp))),st 0 (P (AkJ (l:=[T.pv,accD 5 D,I 0]) 1 (v:=accD 5 D) rfl (by simp) (by simp))),st 0 (P (AkJ (l:=[T.pv,accD 5 D,I 0]) 2 (v:=I 0) rfl (by simp) (by simp))),st 1 (P (AqN T)),st 0 (P (AzE 5 D)),st 2 (oC h6),st 6 (Q (ld_tr T)),st 1 (P (AzE 5 D)),st 0 (P (len_accd 5 D)),st 0 (P (by rw[hw];rfl:semP (.bin .gtr 0) [N D.length,I 0]=some [some (.bool w)])),st 0 (P (build_sr s T ts w)),sg 7 (Q (ld_tr T)),sg 0 (Q (ld_tr T)),sg 0 (oC h76),st 1 (P (stl_sr s T ts w (.str []) (.int .i64 0) (.str []) (.int .i64 0) (.int .i64 0) .nils .nils (.bool false)))] (by simp[AxZ,packR,PV.isRef]:(resK [(4,some (srV s T ts w)),(5,some (.bool true))] [(4,some 8),(5,none)]).bind packR=some (.tuple [srV s T ts w,.bool true]))
theorem RY8:Rn 8 a8:=fun _ _ _=>rfl
theorem y8_{s:List UInt8}{T U:Tr}{ts:List Tk}{w:Bool}{n:Nat}{P1:List PV}{r:PV}{σ1 σ2 σ3:Sto}(h21:E 21 [.str s,T.pv] [] (.tuple [srV s T ts w,.bool true]) [])(h22:E 22 [T.pv,N n] [] (.tuple [accD 1 P1,.bool true]) σ1)(h23:E 23 [T.pv,accD 1 P1] [] (.tuple [U.pv,.bool true]) σ2)(h24:E 24 [.func 78 [] [.vptr (srV s T ts w),.vptr U.pv]] [] r σ3)(hr:r.free=true∧r.flat=true∧r.flat0=true∧r.Aq0=r):E 8 [.str s,T.pv,N n] [] (.tuple [r,I 0]) []:=
 ruleO RY8 [st 0 (P (bx_tr T)),st 3 (Q (ld_tr T)),st 0 (op_c (σ:=[]) (vs:=[.str s,T.pv]) (r':=.tuple [srV s T ts w,.bool true]) h21 (by simp) (by simp) (by simp) rfl),st 1 (P (ext_sr s T ts w true)),st 2 (P (sti_sr s T ts w)),st 4 (Q (ld_tr T)),st 1 (op_c (σ:=[]) (vs:=[T.pv,N n]) (r':=.tuple [accD 1 P1,.bool true]) h22 (by simp) (by simp) (by simp) rfl),st 1 (P (AkJ (l:=[accD 1 P1,.bool true]) 0 (v:=accD 1 P1) rfl (by simp) (by simp))),st 0 (P (AkJ (l:=[accD 1 P1,.bool true]) 1 (v:=.bool true) rfl (by simp) rfl)),st 0 (P (AzE 1 P1)),st 4 (Q (ld_tr T)),st 0 (P (AzE 1 P1)),st 0 (op_c (σ:=[]) (vs:=[T.pv,accD 1 P1]) (r':=.tuple [U.pv,.bool true]) h23 (by simp) (by simp) (by simp) rfl),st 1 (P (AkJ (l:=[U.pv,.bool true]) 0 (v:=U.pv) rfl (by simp) (by simp))),st 0 (P (AkJ (l:=[U.pv,.bool true]) 1 (v:=.bool true) rfl (by simp) rfl)),st 1 (P (AqN U)),st 1 (Q (ld_sr s T ts w)),st 0 (Q (ld_tr U)),st 0 (op_c (σ:=[]) (vs:=[srV s T ts w,U.pv]) (r':=.func 78 [] [.vptr (srV s T ts w),.vptr U.pv]) (y25 s T U ts w) (by simp) (by simp) rfl rfl),st 0 (op_c (σ:=[]) (vs:=[.func 78 [] [.vptr (srV s T ts w),.vptr U.pv]]) h24 rfl rfl hr.2.1 hr.2.2.2),st 0 (P (mv_of hr.1 hr.2.2.2))] (by simp[AxZ,packR,PV.isRef,hr]:(resK [(6,some r),(7,some (I 0))] [(6,none),(7,none)]).bind packR=some (.tuple [r,I 0]))
theorem RY9:Rn 9 a9:=fun _ _ _=>rfl
theorem y9_{s p:List UInt8}{T:Tr}{ts:List Tk}{w:Bool}{σ1:Sto}(h21:E 21 [.str s,T.pv] [] (.tuple [srV s T ts w,.bool true]) [])(h26:E 26 [srV s T ts w,T.pv] [] (.str p) σ1):E 9 [.str s,T.pv] [] (.tuple [.str p,I 0]) []:=
 rule RY9 [st 0 (P (bx_tr T)),st 3 (Q (ld_tr T)),st 0 (op_c (σ:=[]) (vs:=[.str s,T.pv]) (r':=.tuple [srV s T ts w,.bool true]) h21 (by simp) (by simp) (by simp) rfl),st 1 (P (ext_sr s T ts w true)),st 2 (P (sti_sr s T ts w)),st 4 (Q (ld_sr s T ts w)),st 0 (Q (ld_tr T)),st 0 (op_c (σ:=[]) (vs:=[srV s T ts w,T.pv]) h26 (by simp) (by simp) rfl rfl)]
theorem RY22:Rn 22 a22:=fun _ _ _=>rfl
theorem y22{T:Tr}{n c:Nat}{m:Nat}{U:PV}{p:List PV}(hn:n<c)(h7:E 7 [T.pv] [] (N c) [])(h:LL a22 0 [(1,some (N n)),(2,some T.pv),(6,some (accP 1 []))] [] (.exit 0) [(1,some (N m)),(2,some U),(6,some (accP 1 p))] []):E 22 [T.pv,N n] [] (.tuple [accD 1 p,.bool true]) []:=
 ruleO RY22 [st 0 (P (bxl_tr T)),st 3 (P (AqJ .i64 (show ¬(n:Int) < 0 by omega))),sg 2 (P (AvO T)),sg 0 (oC h7),sg 0 (P (b_geqF .i64 (show ¬(n:Int)≥(c:Int) by omega))),sl 3 [1,2,6] h,st 0 (P (mv_acc 1 p)),st 0 (P (AzE 1 p))] (by simp[AxZ,packR,PV.isRef]:(resK [(4,some (accD 1 p)),(5,some (.bool true))] [(4,none),(5,none)]).bind packR=some (.tuple [accD 1 p,.bool true]))
theorem y22x{T:Tr}{p:List PV}:LL a22 0 [(1,some (N 0)),(2,some T.pv),(6,some (accP 1 p))] [] (.exit 0) [(1,some (N 0)),(2,some T.pv),(6,some (accP 1 p))] []:=
 ruleX [1,2,6] [st 1 (P (Az7 .i64 (show ¬(0:Int) > 0 by omega)))]
theorem y22n{T U:Tr}{n m:Nat}{p q:List PV}(w:T.wf)(hn:n<2000000000)(hp:0<n)(h:LL a22 1 [(1,some (N (n - 1))),(2,some T.pv),(6,some (accP 1 p)),(23,some T.kp),(24,some (N T.kids.length)),(25,some (N 0))] [] (.exit 2) [(1,some (N m)),(2,some U.pv),(6,some (accP 1 q))] []){e:AExit}{ff1:FF}{σ1:Sto}(hl:LL a22 0 [(1,some (N m)),(2,some U.pv),(6,some (accP 1 q))] [] e ff1 σ1):LL a22 0 [(1,some (N n)),(2,some T.pv),(6,some (accP 1 p))] [] e ff1 σ1:=
 ruleN [1,2,6] [st 1 (P (AxO .i64 (show(n:Int) > 0 by omega))),st 2 (P (subn n 1 hp hn)),st 2 (P (ldf_kp T 2)),st 0 (P (len_kp w)),sl 1 [1,2,6,23,24,25] h] hl
theorem y22k{T K:Tr}{n i c:Nat}{p:List PV}(w:T.wf)(hi:i<T.kids.length)(li:i<2000000000)(hK:T.kids[i]?=some K)(h7:E 7 [K.pv] [] (N c) [])(hc:c≤n)(hn:n<2000000000){e:AExit}{ff1:FF}{σ1:Sto}(hl:LL a22 1 [(1,some (N (n - c))),(2,some T.pv),(6,some (accP 1 p)),(23,some T.kp),(24,some (N T.kids.length)),(25,some (N (i+1)))] [] e ff1 σ1):LL a22 1 [(1,some (N n)),(2,some T.pv),(6,some (accP 1 p)),(23,some T.kp),(24,some (N T.kids.length)),(25,some (N i))] [] e ff1 σ1:=
 ruleN [1,2,6,23,24,25] [st 0 (P (Aq6 .i64 (show(i:Int) < ((T.kids.length:Nat):Int) by omega))),st 2 (P (idx_kp i w hK)),st 0 (Q (ld_tr K)),st 2 (P (AqN K)),st 0 (Q (ld_tr K)),st 0 (oC h7),st 3 (P (AqJ .i64 (show ¬(n:Int) < (c:Int) by omega))),st 3 (P (subn n c hc hn)),st 1 (P (Aq4 i 1 li (by decide)))] hl
theorem y22f{T K:Tr}{n i c:Nat}{p:List PV}(w:T.wf)(hi:i<T.kids.length)(hK:T.kids[i]?=some K)(h7:E 7 [K.pv] [] (N c) [])(hc:n<c)(hm:p.length+1≤AqC):LL a22 1 [(1,some (N n)),(2,some T.pv),(6,some (accP 1 p)),(23,some T.kp),(24,some (N T.kids.length)),(25,some (N i))] [] (.exit 2) [(1,some (N n)),(2,some K.pv),(6,some (accP 1 (p++[N i])))] []:=
 ruleX [1,2,6] [st 0 (P (Aq6 .i64 (show(i:Int) < ((T.kids.length:Nat):Int) by omega))),st 2 (P (idx_kp i w hK)),st 0 (Q (ld_tr K)),st 2 (P (AqN K)),st 0 (Q (ld_tr K)),st 0 (oC h7),st 3 (P (Aq6 .i64 (show(n:Int) < (c:Int) by omega))),st 1 (P (AkY 1 p)),st 2 (P (AzX (size:=1) (o:=true) (xs:=[N i]) hm ⟨rfl,rfl⟩)),st 0 (Q (ld_tr K)),st 0 (P (AkY 1 (p++[N i]))),st 0 (P (stl_trt T K))]
theorem RY23:Rn 23 a23:=fun _ _ _=>rfl
theorem y23{T U:Tr}{p:List Nat}(h:LL a23 0 [(2,some T.pv),(4,some (.agg [I 0,.str [],I 0,I 0,.nils])),(8,some (accD 1 (p.map N))),(9,some (N p.length)),(10,some (N 0))] [] (.exit 0) [(2,some U.pv),(4,some (.agg [I 0,.str [],I 0,I 0,.nils]))] []):E 23 [T.pv,accD 1 (p.map N)] [] (.tuple [U.pv,.bool true]) []:=
 ruleO RY23 [st 0 (P (bxl_tr T)),st 2 (P (AzE 1 (p.map N))),st 0 (P (len_accm 1 N p)),sl 1 [2,4,8,9,10] h,st 0 (P (AvO U)),st 0 (P (stl_lit (I 0) (.str []) (I 0) (I 0) .nils U))] (by simp[AxZ,packR,PV.isRef]:(resK [(4,some U.pv),(5,some (.bool true))] [(4,some 5),(5,none)]).bind packR=some (.tuple [U.pv,.bool true]))
theorem y23n{T K:Tr}{p:List Nat}{i j:Nat}(w:T.wf)(hj:j<p.length)(hi:p[j]?=some i)(hk:i<T.kids.length)(hK:T.kids[i]?=some K)(l:j<2000000000){e:AExit}{ff1:FF}{σ1:Sto}(hl:LL a23 0 [(2,some K.pv),(4,some (.agg [I 0,.str [],I 0,I 0,.nils])),(8,some (accD 1 (p.map N))),(9,some (N p.length)),(10,some (N (j+1)))] [] e ff1 σ1):LL a23 0 [(2,some T.pv),(4,some (.agg [I 0,.str [],I 0,I 0,.nils])),(8,some (accD 1 (p.map N))),(9,some (N p.length)),(10,some (N j))] [] e ff1 σ1:=
 ruleN [2,4,8,9,10] [st 0 (P (Aq6 .i64 (show(j:Int) < ((p.length:Nat):Int) by omega))),st 1 (P (idx_accm (z:=1) (f:=N) j hi)),st 3 (P (AqJ .i64 (show ¬(i:Int) < 0 by omega))),sg 3 (P (ldf_kp T 2)),sg 0 (P (len_kp w)),sg 0 (P (b_geqF .i64 (show ¬(i:Int)≥((T.kids.length:Nat):Int) by omega))),st 3 (P (ldf_kp T 2)),st 1 (P (idx_kp i w hK)),st 0 (Q (ld_tr K)),st 0 (P (stl_trt T K)),st 0 (P (Aq4 j 1 l (by decide)))] hl
theorem y23x{T:Tr}{p:List Nat}{j:Nat}(hj:¬j<p.length):LL a23 0 [(2,some T.pv),(4,some (.agg [I 0,.str [],I 0,I 0,.nils])),(8,some (accD 1 (p.map N))),(9,some (N p.length)),(10,some (N j))] [] (.exit 0) [(2,some T.pv),(4,some (.agg [I 0,.str [],I 0,I 0,.nils]))] []:=
 ruleX [2,4] [st 0 (P (AqJ .i64 (show ¬(j:Int) < ((p.length:Nat):Int) by omega)))]
theorem RY82:Rn 82 a82:=fun _ _ _=>rfl
theorem y82{s w:List UInt8}{T:Tr}{ts:List Tk}{b:Bool}{at_:Nat}{w':List UInt8}{K K':PV}(h:LL a82 0 [(0,some (N at_)),(1,some (.ref 1 0)),(2,some (.ref 0 0)),(3,some (.vptr (srV s T ts b)))] (stP (srV s T ts b) w K) (.exit 0) [] (stP (srV s T ts b) w' K')):E 82 [N at_,.ref 1 0,.ref 0 0,.vptr (srV s T ts b)] (stP (srV s T ts b) w K) (.tuple []) (stP (srV s T ts b) w' K'):=
 rule RY82 [sl 0 [0,1,2,3] h]
theorem y82a{s w:List UInt8}{T:Tr}{ts:List Tk}{b:Bool}{at_:Nat}:LL a82 0 [(0,some (N at_)),(1,some (.ref 1 0)),(2,some (.ref 0 0)),(3,some (.vptr (srV s T ts b)))] (stP (srV s T ts b) w .nils) (.exit 0) [] (stP (srV s T ts b) w .nils):=
 ruleX [] []
theorem y82b{s w:List UInt8}{T:Tr}{ts:List Tk}{b:Bool}{at_:Nat}:LL a82 0 [(0,some (N at_)),(1,some (.ref 1 0)),(2,some (.ref 0 0)),(3,some (.vptr (srV s T ts b)))] (stP (srV s T ts b) w (.slice false 5 (Tr.pvs []))) (.exit 0) [] (stP (srV s T ts b) w (.slice false 5 (Tr.pvs []))):=
 ruleX [] []
theorem y82c{s w:List UInt8}{T:Tr}{ts:List Tk}{b:Bool}{at_:Nat}{k:Tr}{ks:List Tr}(hk:¬k.st<(at_:Nat)):LL a82 0 [(0,some (N at_)),(1,some (.ref 1 0)),(2,some (.ref 0 0)),(3,some (.vptr (srV s T ts b)))] (stP (srV s T ts b) w (.slice false 5 (Tr.pvs (k::ks)))) (.exit 0) [] (stP (srV s T ts b) w (.slice false 5 (Tr.pvs (k::ks)))):=
 ruleX [] [st 1 (PS (stP (srV s T ts b) w (.slice false 5 (Tr.pvs (k::ks)))) (len_trs false 5 (k::ks))),st 0 (PS (stP (srV s T ts b) w (.slice false 5 (Tr.pvs (k::ks)))) (AxO .i64 (show(((k::ks).length:Nat):Int) > 0 by rw[List.length_cons];omega))),sg 2 (PS (stP (srV s T ts b) w (.slice false 5 (Tr.pvs (k::ks)))) (AQN (o:=false) (s:=5) (ts:=k::ks) (U:=k) 0 rfl)),sg 0 (PS (stP (srV s T ts b) w (.slice false 5 (Tr.pvs (k::ks)))) (fa_tr2 k)),sg 2 (PS (stP (srV s T ts b) w (.slice false 5 (Tr.pvs (k::ks)))) (AqJ .i64 hk))]
theorem y82n{s w:List UInt8}{T:Tr}{ts:List Tk}{b:Bool}{at_:Nat}{p:List UInt8}{k:Tr}{ks:List Tr}{σ2:Sto}(hk:k.st<(at_:Nat))(h26:E 26 [srV s T ts b,k.pv] [] (.str p) σ2)(hp:w.length+p.length≤4294967296){e:AExit}{ff1:FF}{σ1:Sto}(hl:LL a82 0 [(0,some (N at_)),(1,some (.ref 1 0)),(2,some (.ref 0 0)),(3,some (.vptr (srV s T ts b)))] (stP (srV s T ts b) (w++p) (.slice false 5 (Tr.pvs ks))) e ff1 σ1):LL a82 0 [(0,some (N at_)),(1,some (.ref 1 0)),(2,some (.ref 0 0)),(3,some (.vptr (srV s T ts b)))] (stP (srV s T ts b) w (.slice false 5 (Tr.pvs (k::ks)))) e ff1 σ1:=
 ruleN [0,1,2,3] [st 1 (PS (stP (srV s T ts b) w (.slice false 5 (Tr.pvs (k::ks)))) (len_trs false 5 (k::ks))),st 0 (PS (stP (srV s T ts b) w (.slice false 5 (Tr.pvs (k::ks)))) (AxO .i64 (show(((k::ks).length:Nat):Int) > 0 by rw[List.length_cons];omega))),sg 2 (PS (stP (srV s T ts b) w (.slice false 5 (Tr.pvs (k::ks)))) (AQN (o:=false) (s:=5) (ts:=k::ks) (U:=k) 0 rfl)),sg 0 (PS (stP (srV s T ts b) w (.slice false 5 (Tr.pvs (k::ks)))) (fa_tr2 k)),sg 2 (PS (stP (srV s T ts b) w (.slice false 5 (Tr.pvs (k::ks)))) (Aq6 .i64 hk)),st 2 (QS (stP (srV s T ts b) w (.slice false 5 (Tr.pvs (k::ks)))) (ld_sr s T ts b)),st 1 (PS (stP (srV s T ts b) w (.slice false 5 (Tr.pvs (k::ks)))) (AQN (o:=false) (s:=5) (ts:=k::ks) (U:=k) 0 rfl)),st 0 (QS (stP (srV s T ts b) w (.slice false 5 (Tr.pvs (k::ks)))) (ld_tr k)),st 0 (op_c (vs:=[srV s T ts b,k.pv]) (σ:=(stP (srV s T ts b) w (.slice false 5 (Tr.pvs (k::ks))))) h26 (by simp) (by simp) rfl rfl),st 0 (op_wc (vs:=[.ref 0 0,.str p]) (e83 (V:=srV s T ts b) (K:=(.slice false 5 (Tr.pvs (k::ks)))) hp) rfl rfl rfl rfl),st 1 (PS (stP (srV s T ts b) (w++p) (.slice false 5 (Tr.pvs (k::ks)))) (vsl_trs k ks))] hl
end Go.Abs.Z

namespace Go.Abs.Z
open Go.Proofs Go.RowKit
set_option linter.unusedVariables false
theorem round_go{f:LFn}{X A A1 A2 B1 C1 B2 B:Frm}{σ σ1 σ2:Sto}{x:List PV}(h1:FEx f.aca (AZY f.ds x A) σ .normal A1 σ1)(k1:keepF f.La A1=B1)(q1:quiet (hideF X B1) σ1=true∧A1.length=f.La.length)
  (e1:fillF X B1=C1) (h2:FEx f.ac C1 σ1 .normal A2 σ2) (k2:keepF f.L A2=B2) (q2:quiet (hideF X B2) σ2=true∧A2.length=f.L.length) (e2:fillF X B2=B) :
  ∃N,∀n,N≤n→∀m,AvN pur (run n) m f.aca f.ac f.La f.L X f.ds x A σ=some (B,σ2):=by
 obtain⟨N1,H1⟩:=h1;obtain⟨N2,H2⟩:=h2;refine⟨max N1 N2,fun n hn m=>?_⟩
 unfold AvN;rw[H1 n (by omega) m]
 dsimp only;rw[k1,if_pos q1,e1,H2 n (by omega) m]
 dsimp only;rw[k2,if_pos q2,e2]
theorem lf_go{f:LFn}{g:FuncId}(hrun:∀n args σ,run (n+1) g args σ=runLF pur itr 1000 f (run n) args σ){args:List PV}{A0 A1 A2 A3 X:Frm}{σ0 σ1 σ2 σ3 σ4:Sto}{gf:FuncId}{caps:List PV}{xs:List (List PV)}{e:AExit}{r:PV}
  (ha:args.length=f.nargs∧args.length≤f.ntmps) (hp:∃N,∀n,N≤n→preF pur (run n) 1000 f.pre (args.map some++List.replicate (f.ntmps+f.extra - args.length) none) σ0=some (.normal,A0,σ1))
  (hr:FEx f.rg A0 σ1 .normal A1 σ2) (hg:A1.get f.g=some (.func gf [] caps)) (hi:itr gf caps=some xs) (hX:keepX f.Lv A1=X)
  (hc:quiet (hideF X (keepF f.L A1)) σ2=true∧A1.length=f.L.length∧f.Lv.length=f.L.length∧f.Lr.length=f.L.length∧caps.all PV.flat=true∧xs.all (fun x=>x.length==f.nps)=true)
  (h1:∃N,∀n,N≤n→∀m,iterL pur (run n) m f.aca f.ac f.La f.L X f.ds xs (fillF X (keepF f.L A1)) σ2=some (A2,σ3)) (h2:FEx f.post A2 σ3 e A3 σ4)
  (h3:(e=.normal∨e=.ret)∧quiet (hideF X (keepF f.Lr A3)) σ4=true∧A3.length=f.Lr.length) (h4:endF f (hideF X (keepF f.Lr A3)) σ4=some (r,σ4)):E g args σ0 r σ4:=by
 obtain⟨N1,H1⟩:=hp;obtain⟨N2,H2⟩:=hr;obtain⟨N3,H3⟩:=h1;obtain⟨N4,H4⟩:=h2;refine AwX (max N1 (max N2 (max N3 N4))) fun n hn=>?_
 rw[hrun,runLF,if_pos ha,H1 n (by omega)]
 dsimp only;rw[H2 n (by omega) 1000]
 dsimp only;exact loopF_go hg hi hX hc (H3 n (by omega) 1000) (H4 n (by omega) 1000) h3 h4
theorem pre_nil{A:Frm}{σ:Sto}:∃N,∀n,N≤n→preF pur (run n) 1000 [] A σ=some (.normal,A,σ):=⟨0,fun _ _=>rfl⟩
theorem AwI{c:ACode}{cs:List ACode}{A A1 A2:Frm}{σ σ1 σ2:Sto}(h:FEx c A σ .normal A1 σ1)(h2:∃N,∀n,N≤n→preF pur (run n) 1000 cs A1 σ1=some (.normal,A2,σ2)):∃N,∀n,N≤n→preF pur (run n) 1000 (c::cs) A σ=some (.normal,A2,σ2):=by
 obtain⟨N1,H1⟩:=h;obtain⟨N2,H2⟩:=h2;refine⟨max N1 N2,fun n hn=>?_⟩
 rw[preF,H1 n (by omega) 1000]
 exact H2 n (by omega)
def accA:List Tk→PV×Sto
 |[]=>(.nils,[])
 |t::l=>(.arr 0 l.length 0 (l.length+1) 4,[[.arrv l.length 4 ((t::l).map Tk.pv)]])
theorem AJB(l:List Tk):(accA l).1.free=true:=by cases l<;>rfl
theorem AQW(l:List Tk):(accA l).1.noMap=true:=by cases l<;>rfl
theorem Aw2(l:List Tk):(accA l).2.all PV.AqI=true:=by
 cases l with
 |nil=>rfl
 |cons t l=>
  show(PV.AqI [PV.arrv l.length 4 ((t::l).map Tk.pv)]&&true)=true;simp only[PV.AqI,PV.noMap,AQ9];rfl
theorem row_tk(t:Tk)(l:List Tk):rowA [[PV.arrv l.length 4 ((t::l).map Tk.pv)]] 0 l.length 0 (l.length+1) 4=some ((t::l).map Tk.pv):=by
 have:(t::l).map Tk.pv=((t::l).map Tk.pv).take (l.length+1):=by rw[List.take_of_length_le (by simp)]
 simp only[rowA,arrOf,List.getElem?_cons_zero]
 simp only[true_and,if_true];rw[if_pos (by simp),List.drop_zero,←this]
theorem app0(t:Tk):OpEv pur run (.w (.appA 4)) [.nils,.slice true 4 [t.pv]] [] [some (accA [t]).1] (accA [t]).2:=⟨0,fun n _=>rfl⟩
theorem app1(t u:Tk)(l:List Tk)(h:l.length+2≤AqC):OpEv pur run (.w (.appA 4)) [(accA (u::l)).1,.slice true 4 [t.pv]] (accA (u::l)).2 [some (accA (u::l++[t])).1] (accA (u::l++[t])).2:=by
 refine⟨0,fun n _=>?_⟩
 have hr:=row_tk u l;show appA 4 (.arr 0 l.length 0 (l.length+1) 4) [t.pv] [[.arrv l.length 4 ((u::l).map Tk.pv)]]=_;unfold appA;dsimp only;rw[if_pos rfl,hr];dsimp only;rw[if_neg (by simp),if_pos ⟨by simpa using h,rfl,rfl⟩]
 simp[accA]
section
variable{cs:List PV}(hn:(PV.func 78 [] cs).noMap=true)
def qF(cs:List PV)(a:PV):Frm:=some .nils::some (.func 78 [] cs)::some a::none::some .nils::none::some (.func 78 [] cs)::nn 6
theorem as_pre(cs:List PV):FEx (lf77.pre.getD 0 .skip) (some .nils::some (.func 78 [] cs)::nn 11) [] .normal (some .nils::some (.func 78 [] cs)::some .nils::none::some .nils::nn 8) []:=AxV []
theorem as_rg(cs:List PV):FEx lf77.rg (some .nils::some (.func 78 [] cs)::some .nils::none::some .nils::nn 8) [] .normal (qF cs .nils) []:=AxV []
theorem as_skip(cs:List PV)(a:PV)(t:Tk)(σ:Sto):FEx lf77.aca (some .nils::some (.func 78 [] cs)::some a::none::some .nils::none::some (.func 78 [] cs)::some t.pv::nn 5) σ .normal
  (some .nils::some (.func 78 [] cs)::some a::none::some .nils::some (.vptr t.pv)::some (.func 78 [] cs)::some t.pv::nn 5) σ:=AxV []
theorem as_b0(cs:List PV)(t:Tk):FEx lf77.ac (some .nils::some (.func 78 [] cs)::some .nils::none::some .nils::some (.vptr t.pv)::some (.func 78 [] cs)::some t.pv::nn 5) [] .normal
  (some .nils::some (.func 78 [] cs)::some (accA [t]).1::none::some .nils::some (.vptr t.pv)::some (.func 78 [] cs)::some t.pv::some .nils::some t.pv::some (.slice true 4 [t.pv])::some (accA [t]).1::nn 1) (accA [t]).2:=
 AxV [st 3 (app0 t)]
theorem as_b1(cs:List PV)(t u:Tk)(l:List Tk)(h:l.length+2≤AqC):FEx lf77.ac (some .nils::some (.func 78 [] cs)::some (accA (u::l)).1::none::some .nils::some (.vptr t.pv)::some (.func 78 [] cs)::some t.pv::nn 5) (accA (u::l)).2 .normal
  (some .nils::some (.func 78 [] cs)::some (accA (u::l++[t])).1::none::some .nils::some (.vptr t.pv)::some (.func 78 [] cs)::some t.pv::some (accA (u::l)).1::some t.pv::some (.slice true 4 [t.pv])::some (accA (u::l++[t])).1::nn 1) (accA (u::l++[t])).2:=
 AxV [st 3 (app1 t u l h)]
theorem as_body(cs:List PV)(t:Tk)(l:List Tk)(h:l.length+2≤AqC):FEx lf77.ac (some .nils::some (.func 78 [] cs)::some (accA l).1::none::some .nils::some (.vptr t.pv)::some (.func 78 [] cs)::some t.pv::nn 5) (accA l).2 .normal
  (some .nils::some (.func 78 [] cs)::some (accA (l++[t])).1::none::some .nils::some (.vptr t.pv)::some (.func 78 [] cs)::some t.pv::some (accA l).1::some t.pv::some (.slice true 4 [t.pv])::some (accA (l++[t])).1::nn 1) (accA (l++[t])).2:=by
 cases l with
 |nil=>exact as_b0 cs t
 |cons u l=>exact as_b1 cs t u l (by rw[List.length_cons] at h;omega)
theorem as_post(cs:List PV)(l:List Tk):FEx lf77.post (qF cs (accA l).1) (accA l).2 .ret (some .nils::some (.func 78 [] cs)::some (accA l).1::none::some (accA l).1::none::some (.func 78 [] cs)::none::none::none::none::none::[some (accA l).1]) (accA l).2:=by
 cases l with
 |nil=>exact AxV [] (by kernel_rfl)
 |cons u l=>exact AxV [] (by kernel_rfl)
include hn
theorem as_round(t:Tk)(l:List Tk)(h:l.length+2≤AqC):∃N,∀n,N≤n→∀m,AvN pur (run n) m lf77.aca lf77.ac lf77.La lf77.L (nn 13) lf77.ds [t.pv] (qF cs (accA l).1) (accA l).2=some (qF cs (accA (l++[t])).1,(accA (l++[t])).2):=by
 have e1:=AJB l;have e2:=AJB (l++[t]);have m1:=AQW l;have m2:=AQW (l++[t]);have m3:t.pv.noMap=true:=rfl;have e3:t.pv.free=true:=rfl;have hn':PV.AqI cs=true:=by simpa [PV.noMap,PV.AqI] using hn
 have k1:keepF lf77.La (some .nils::some (.func 78 [] cs)::some (accA l).1::none::some .nils::some (.vptr t.pv)::some (.func 78 [] cs)::some t.pv::nn 5)=some .nils::some (.func 78 [] cs)::some (accA l).1::none::some .nils::some (.vptr t.pv)::some (.func 78 [] cs)::some t.pv::nn 5:=by
  simp only[keepF,lf77,nn,List.zipWith,Option.filter,e1,e3];rfl
 have k2:keepF lf77.L (some .nils::some (.func 78 [] cs)::some (accA (l++[t])).1::none::some .nils::some (.vptr t.pv)::some (.func 78 [] cs)::some t.pv::some (accA l).1::some t.pv::some (.slice true 4 [t.pv])::some (accA (l++[t])).1::nn 1)=qF cs (accA (l++[t])).1:=by
  simp only[keepF,lf77,nn,List.zipWith,Option.filter,e2,e3];rfl
 refine round_go (f:=lf77) (X:=nn 13) (as_skip cs _ t _) k1 ⟨AzV (Aw2 l) _ ?_,rfl⟩ rfl (as_body cs t l h) k2 ⟨AzV (Aw2 _) _ ?_,rfl⟩ rfl
 ·simp[hideF,nn,PV.noMap,PV.AqI,m1,m3,hn']
 ·simp[hideF,qF,nn,PV.noMap,PV.AqI,m2,hn']
theorem as_iter:∀(L l:List Tk),l.length+L.length+2≤AqC→∃N,∀n,N≤n→∀m,iterL pur (run n) m lf77.aca lf77.ac lf77.La lf77.L (nn 13) lf77.ds (L.map fun t=>[t.pv]) (qF cs (accA l).1) (accA l).2=some (qF cs (accA (l++L)).1,(accA (l++L)).2)
 |[],l,h=>⟨0,fun n _ m=>by rw[List.append_nil];rfl⟩
 |t::L,l,h=>by
  rw[List.length_cons] at h;obtain⟨N1,H1⟩:=as_round hn t l (by omega)
  obtain⟨N2,H2⟩:=as_iter L (l++[t]) (by simp;omega)
  refine⟨max N1 N2,fun n hn' m=>?_⟩
  rw[List.map_cons,iterL,H1 n (by omega) m]
  dsimp only;rw[H2 n (by omega) m,List.append_assoc];rfl
theorem e77(hf:cs.all PV.flat=true){L:List Tk}(hi:itr 78 cs=some (L.map fun t=>[t.pv]))(hL:L.length+2≤AqC):E 77 [.nils,.func 78 [] cs] [] (accA L).1 (accA L).2:=by
 have e1:=AJB L;have m1:=AQW L;have hn':PV.AqI cs=true:=by simpa [PV.noMap,PV.AqI] using hn
 have k0:fillF (nn 13) (keepF lf77.L (qF cs .nils))=qF cs (accA []).1:=rfl
 have k4:keepF lf77.Lr (some .nils::some (.func 78 [] cs)::some (accA L).1::none::some (accA L).1::none::some (.func 78 [] cs)::none::none::none::none::none::[some (accA L).1])=some .nils::some (.func 78 [] cs)::some (accA L).1::none::some (accA L).1::none::some (.func 78 [] cs)::none::none::none::none::none::[some (accA L).1]:=by
  simp only[keepF,lf77,List.zipWith,Option.filter,e1];rfl
 have ed:(accA L).1.Aq0=(accA L).1:=by cases L<;>rfl
 refine lf_go (f:=lf77) (g:=77) (A0:=some .nils::some (.func 78 [] cs)::some .nils::none::some .nils::nn 8) (A1:=qF cs .nils) (A2:=qF cs (accA L).1) (X:=nn 13) (fun _ _ _=>rfl) ⟨rfl,by show 2≤13;decide⟩ (AwI (as_pre cs) pre_nil) (as_rg cs) rfl hi ?_ ⟨AzV rfl _ ?_,rfl,rfl,rfl,hf,by simp<;>(intros;rfl)⟩ ?_ (as_post cs L) ⟨.inr rfl,AzV (Aw2 L) _ ?_,rfl⟩ ?_
 ·have:=Ax8 hn;have h2:AxU .nils=false:=rfl;simp only[keepX,lf77,qF,nn,List.zipWith,Option.filter,this,h2];rfl
 ·show(hideF (nn 13) (qF cs .nils)).all _=true;simp[hideF,qF,nn,PV.noMap,PV.AqI,hn']
 ·rw[k0];exact as_iter hn L [] (by simpa using hL)
 ·rw[k4];simp[hideF,nn,PV.noMap,PV.AqI,m1,hn']
 ·rw[k4];show((if resOk (accA L).1 none then some [(accA L).1.Aq0] else(Aw9 (accA L).1 none).map fun r=>[r]).bind fun vs=>(packR vs).map fun r=>(r,(accA L).2))=_
  rw[if_pos (by rw[ok_none];exact e1),ed]
  rfl
theorem e24(hf:cs.all PV.flat=true){L:List Tk}(hi:itr 78 cs=some (L.map fun t=>[t.pv]))(hL:L.length+2≤AqC):∃σ,E 24 [.func 78 [] cs] [] (accD 4 (L.map Tk.pv)) σ:=by
 have h:=e77 hn hf hi hL;cases L with
 |nil=>exact⟨_,y24 h rfl rfl ⟨rfl,rfl⟩⟩
 |cons t l=>
  have hz:frzV (accA (t::l)).1 (accA (t::l)).2=some (.slice false 4 ((t::l).map Tk.pv),[[.dead]]):=by
   have hr:=row_tk t l
   show(match rowA [[PV.arrv l.length 4 ((t::l).map Tk.pv)]] 0 l.length 0 (l.length+1) 4 with
    |some es=>if es.all (fun e=>e.flat&&e.cells.all PV.flat) then some (PV.slice false 4 es,([[PV.arrv l.length 4 ((t::l).map Tk.pv)]]:Sto).set 0 [.dead]) else none
    |none=>none)=_
   rw[hr];dsimp only;rw[if_pos (by simp[Tk.pv,PV.flat,PV.cells])]
   rfl
  exact⟨_,y24 h hz rfl ⟨rfl,rfl⟩⟩
end
end Go.Abs.Z

namespace Go.Abs.Z
open Go.Proofs Go.RowKit
set_option linter.unusedVariables false
def KV(K:PV)(ks:List Tr):Prop:=(K=.nils∧ks=[])∨K=.slice false 5 (Tr.pvs ks)
theorem KV.kp{T:Tr}(w:T.wf):KV T.kp T.kids:=by
 obtain⟨k,t,a,e,n,ks⟩:=T;cases n
 ·exact .inr rfl
 ·exact .inl ⟨rfl,w.1 rfl⟩
theorem KV.noMap{K:PV}{ks:List Tr}(h:KV K ks):K.noMap=true:=by
 rcases h with⟨rfl,_⟩ | rfl
 ·rfl
 ·exact Tr.AwG ks
mutual

def Tr.pb(s:Str)(T:List Tk):Tr→Prop
 |.mk kd tx st en b ks=>((Tr.mk kd tx st en b ks).prt s T).length≤4294967296∧pbs s T ks
def pbs(s:Str)(T:List Tk):List Tr→Prop
 |[]=>True
 |x::xs=>x.pb s T∧pbs s T xs
end
section
variable{s:Str}{T:Tr}{ts:List Tk}{b:Bool}
theorem e82l(at_:Nat):∀(ks:List Tr) (K:PV) (w:Str),KV K ks→(∀k∈ks,∃σ,E 26 [srV s T ts b,k.pv] [] (.str (k.prt s ts)) σ)→w.length+(bef (prts s ts ks) (at_:Nat)).1.length≤4294967296→
  ∃K' ks',KV K' ks'∧prts s ts ks'=(bef (prts s ts ks) (at_:Nat)).2∧(∀k∈ks',k∈ks)∧
   LL a82 0 [(0,some (N at_)),(1,some (.ref 1 0)),(2,some (.ref 0 0)),(3,some (.vptr (srV s T ts b)))] (stP (srV s T ts b) w K) (.exit 0) [] (stP (srV s T ts b) (w++(bef (prts s ts ks) (at_:Nat)).1) K')
 |[],K,w,hK,hE,hw=>by
  refine⟨K,[],hK,rfl,fun k h=>h,?_⟩
  show LE _ _ _ _ _ _ (stP _ (w++[]) K);rw[List.append_nil];rcases hK with⟨rfl,_⟩ | rfl
  ·exact y82a
  ·exact y82b
 |k::ks,K,w,hK,hE,hw=>by
  rcases hK with⟨_,h⟩ | rfl
  ·cases h
  rw[prts] at hw ⊢;by_cases hk:k.st<(at_:Nat)
  ·rw[bef_go (k:=(k.st,k.prt s ts)) hk] at hw ⊢;simp only[List.length_append] at hw;obtain⟨σ2,h26⟩:=hE k (List.mem_cons_self ..);obtain⟨K',ks',h1,h2,h3,h4⟩:=e82l at_ ks _ (w++k.prt s ts) (.inr rfl) (fun x hx=>hE x (List.mem_cons_of_mem _ hx)) (by rw[List.length_append];omega)
   refine⟨K',ks',h1,h2,fun x hx=>List.mem_cons_of_mem _ (h3 x hx),?_⟩
   rw[List.append_assoc] at h4;exact y82n hk h26 (by omega) h4
  ·rw[AvF (k:=(k.st,k.prt s ts)) hk] at hw ⊢;refine⟨_,k::ks,.inr rfl,by rw[prts],fun x hx=>hx,?_⟩
   show LE _ _ _ _ _ _ (stP _ (w++[]) _);rw[List.append_nil];exact y82c hk
theorem e82(at_:Nat){ks:List Tr}{K:PV}{w:Str}(hK:KV K ks)(hE:∀k∈ks,∃σ,E 26 [srV s T ts b,k.pv] [] (.str (k.prt s ts)) σ)(hw:w.length+(bef (prts s ts ks) (at_:Nat)).1.length≤4294967296):
  ∃K' ks',KV K' ks'∧prts s ts ks'=(bef (prts s ts ks) (at_:Nat)).2∧(∀k∈ks',k∈ks)∧
   E 82 [N at_,.ref 1 0,.ref 0 0,.vptr (srV s T ts b)] (stP (srV s T ts b) w K) (.tuple []) (stP (srV s T ts b) (w++(bef (prts s ts ks) (at_:Nat)).1) K'):=by
 obtain⟨K',ks',h1,h2,h3,h4⟩:=e82l at_ ks K w hK hE hw;exact⟨K',ks',h1,h2,h3,y82 h4⟩
end
section
variable(s:Str)(T x:Tr)(ts:List Tk)(b:Bool)
abbrev cl82(V:PV):PV:=.func 82 [] [.ref 1 0,.ref 0 0,.vptr V]
abbrev it78(V x:PV):PV:=.func 78 [] [.vptr V,.vptr x]
def pF(V x kp:PV)(t8 t15:Option PV)(l:Frm):Frm:=some V::some x::some (.vptr V)::some (.vptr x)::some (.str [])::some (.ref 0 0)::some (.ref 1 0)::some (.ref 2 0)::t8::some (.vptr kp)::some kp::some (cl82 V)::some V::some x::some (it78 V x)::t15::l
theorem p_pre1:FEx (lf26.pre.getD 0 .skip) (some (srV s T ts b)::some x.pv::nn 33) [] .normal (some (srV s T ts b)::some x.pv::some (.vptr (srV s T ts b))::some (.vptr x.pv)::some (.str [])::nn 30) []:=
 AxV [st 0 (P (bx_sr s T ts b)),st 0 (P (bx_tr x))]
theorem p_pre2:FEx (lf26.pre.getD 1 .skip) (some (srV s T ts b)::some x.pv::some (.vptr (srV s T ts b))::some (.vptr x.pv)::some (.str [])::nn 30) [] .normal (some (srV s T ts b)::some x.pv::some (.vptr (srV s T ts b))::some (.vptr x.pv)::some (.str [])::some (.ref 0 0)::nn 29) [[.bld 120 5 []]]:=
 AxV []
theorem st_kp:OpEv pur run (.w (.st 1)) [.ref 1 0,x.kp] [[.bld 120 5 []],[.nils]] [] [[.bld 120 5 []],[x.kp]]:=by
 obtain⟨k,t,a,e,n,ks⟩:=x;cases n
 ·exact⟨0,fun _ _=>rfl⟩
 ·exact⟨0,fun _ _=>rfl⟩
theorem p_pre3:FEx (lf26.pre.getD 2 .skip) (some (srV s T ts b)::some x.pv::some (.vptr (srV s T ts b))::some (.vptr x.pv)::some (.str [])::some (.ref 0 0)::nn 29) [[.bld 120 5 []]] .normal
  (some (srV s T ts b)::some x.pv::some (.vptr (srV s T ts b))::some (.vptr x.pv)::some (.str [])::some (.ref 0 0)::some (.ref 1 0)::none::none::some (.vptr x.kp)::some x.kp::nn 24) [[.bld 120 5 []],[x.kp]]:=
 AxV [st 0 (PS [[.bld 120 5 []]] (fa_tr4 x)),st 0 (QS [[.bld 120 5 []]] (ld_kp x)),st 1 (st_kp x)]
theorem p_pre4:FEx (lf26.pre.getD 3 .skip) (some (srV s T ts b)::some x.pv::some (.vptr (srV s T ts b))::some (.vptr x.pv)::some (.str [])::some (.ref 0 0)::some (.ref 1 0)::none::none::some (.vptr x.kp)::some x.kp::nn 24) [[.bld 120 5 []],[x.kp]] .normal
  (some (srV s T ts b)::some x.pv::some (.vptr (srV s T ts b))::some (.vptr x.pv)::some (.str [])::some (.ref 0 0)::some (.ref 1 0)::some (.ref 2 0)::none::some (.vptr x.kp)::some x.kp::some (cl82 (srV s T ts b))::nn 23) (stP (srV s T ts b) [] x.kp):=
 AxV []
theorem p_rg(σ:Sto):FEx lf26.rg (some (srV s T ts b)::some x.pv::some (.vptr (srV s T ts b))::some (.vptr x.pv)::some (.str [])::some (.ref 0 0)::some (.ref 1 0)::some (.ref 2 0)::none::some (.vptr x.kp)::some x.kp::some (cl82 (srV s T ts b))::nn 23) σ .normal
  (pF (srV s T ts b) x.pv x.kp none none (nn 19)) σ:=
 AxV [st 0 (QS σ (ld_sr s T ts b)),st 0 (QS σ (ld_tr x)),st 0 (op_c (σ:=σ) (vs:=[srV s T ts b,x.pv]) (r':=.func 78 [] [.vptr (srV s T ts b),.vptr x.pv]) (y25 s T x ts b) (by simp) (by simp) rfl rfl)]
theorem p_skip(t:Tk)(σ:Sto):FEx lf26.aca (pF (srV s T ts b) x.pv x.kp none (some t.pv) (nn 19)) σ .normal (pF (srV s T ts b) x.pv x.kp (some (.vptr t.pv)) (some t.pv) (nn 19)) σ:=AxV []
variable{s T x ts b}
theorem p_body(t:Tk){w w':Str}{K K':PV}(h:E 82 [N t.a,.ref 1 0,.ref 0 0,.vptr (srV s T ts b)] (stP (srV s T ts b) w K) (.tuple []) (stP (srV s T ts b) w' K'))(h1:t.f≤t.e)(h2:t.e≤s.length)(h3:w'.length+(pcT s t).length≤4294967296):
  FEx lf26.ac (pF (srV s T ts b) x.pv x.kp (some (.vptr t.pv)) (some t.pv) (nn 19)) (stP (srV s T ts b) w K) .normal
   (pF (srV s T ts b) x.pv x.kp (some (.vptr t.pv)) (some t.pv) (some (cl82 (srV s T ts b))::some (.vptr (N t.a))::some (N t.a)::some (.tuple [])::some (.vptr (.str s))::some (.str s)::some (.vptr (N t.f))::some (N t.f)::some (.vptr (N t.e))::some (N t.e)::some (.str (pcT s t))::some (.tuple [N (pcT s t).length,.nili])::nn 7))
   (stP (srV s T ts b) (w'++pcT s t) K'):=
 AxV [st 3 (op_wd (fs:=[]) (vs:=[N t.a]) (cs:=[.ref 1 0,.ref 0 0,.vptr (srV s T ts b)]) h rfl rfl rfl rfl),st 6 (PS (stP (srV s T ts b) w' K') (p_ssl s t.f t.e h1 h2)),st 0 (op_wc (vs:=[.ref 0 0,.str (pcT s t)]) (e83 (V:=srV s T ts b) (K:=K') h3) rfl rfl rfl rfl)]
theorem e84{w:Str}{V K:PV}:E 84 [.ref 0 0] (stP V w K) (.str w) [[.dead],[K],[cl82 V]]:=AwX 0 fun n _=>rfl
theorem p_post{w w':Str}{K K':PV}(h:E 82 [N (s.length+1),.ref 1 0,.ref 0 0,.vptr (srV s T ts b)] (stP (srV s T ts b) w K) (.tuple []) (stP (srV s T ts b) w' K'))(hs:s.length<2000000000):
  FEx lf26.post (pF (srV s T ts b) x.pv x.kp none none (nn 19)) (stP (srV s T ts b) w K) .ret
   (some (srV s T ts b)::some x.pv::some (.vptr (srV s T ts b))::some (.vptr x.pv)::some (.str w')::some (.ref 0 0)::some (.ref 1 0)::some (.ref 2 0)::none::some (.vptr x.kp)::some x.kp::some (cl82 (srV s T ts b))::some (srV s T ts b)::some x.pv::some (it78 (srV s T ts b) x.pv)::none ::
    none::none::none::none::none::none::none::none::none::none::none::none::some (cl82 (srV s T ts b))::some (.vptr (.str s))::some (.str s)::some (N s.length)::some (N (s.length+1))::some (.tuple [])::[some (.str w')]) [[.dead],[K'],[cl82 (srV s T ts b)]]:=
 AxV [st 4 (PS (stP (srV s T ts b) w K) (Aq4 s.length 1 hs (by decide))),st 0 (op_wd (fs:=[]) (vs:=[N (s.length+1)]) (cs:=[.ref 1 0,.ref 0 0,.vptr (srV s T ts b)]) h rfl rfl rfl rfl),st 0 (op_wc (vs:=[.ref 0 0]) (e84 (V:=srV s T ts b) (K:=K') (w:=w')) rfl rfl rfl rfl)]
theorem st_quiet{V K:PV}{w:Str}(hV:V.noMap=true)(hK:K.noMap=true):(stP V w K).all PV.AqI=true:=by simp[stP,PV.AqI,PV.noMap,hV,hK]
theorem p_round(t:Tk){w w':Str}{K K':PV}(hK:K.noMap=true)(hK':K'.noMap=true)(h:E 82 [N t.a,.ref 1 0,.ref 0 0,.vptr (srV s T ts b)] (stP (srV s T ts b) w K) (.tuple []) (stP (srV s T ts b) w' K'))(h1:t.f≤t.e)(h2:t.e≤s.length)(h3:w'.length+(pcT s t).length≤4294967296):
  ∃N,∀n,N≤n→∀m,AvN pur (run n) m lf26.aca lf26.ac lf26.La lf26.L (nn 35) lf26.ds [t.pv] (pF (srV s T ts b) x.pv x.kp none none (nn 19)) (stP (srV s T ts b) w K)=some (pF (srV s T ts b) x.pv x.kp none none (nn 19),stP (srV s T ts b) (w'++pcT s t) K'):=by
 have hV:=sr_noMap s T ts b;have m3:t.pv.noMap=true:=rfl;have m4:=x.Az0;have m5:=kp_noMap x;have f1:=x.AzW;have f2:=AZJ x;have f3:=sr_free s T ts b;have f4:t.pv.free=true:=rfl
 have k1:keepF lf26.La (pF (srV s T ts b) x.pv x.kp (some (.vptr t.pv)) (some t.pv) (nn 19))=pF (srV s T ts b) x.pv x.kp (some (.vptr t.pv)) (some t.pv) (nn 19):=by
  simp only[keepF,lf26,pF,nn,List.zipWith,Option.filter,f1,f2,f3,f4];rfl
 have k2:keepF lf26.L (pF (srV s T ts b) x.pv x.kp (some (.vptr t.pv)) (some t.pv) (some (cl82 (srV s T ts b))::some (.vptr (N t.a))::some (N t.a)::some (.tuple [])::some (.vptr (.str s))::some (.str s)::some (.vptr (N t.f))::some (N t.f)::some (.vptr (N t.e))::some (N t.e)::some (.str (pcT s t))::some (.tuple [N (pcT s t).length,.nili])::nn 7))=pF (srV s T ts b) x.pv x.kp none none (nn 19):=by
  simp only[keepF,lf26,pF,nn,List.zipWith,Option.filter,f1,f2,f3,f4];rfl
 refine round_go (f:=lf26) (X:=nn 35) (p_skip s T x ts b t _) k1 ⟨AzV (st_quiet hV hK) _ ?_,rfl⟩ rfl (p_body (x:=x) t h h1 h2 h3) k2 ⟨AzV (st_quiet hV hK') _ ?_,rfl⟩ rfl
 ·simp[hideF,nn,pF,PV.noMap,PV.AqI,hV,m3,m4,m5]
 ·simp[hideF,nn,pF,PV.noMap,PV.AqI,hV,m4,m5]
theorem p_iter(hs:s.length<1000000000):∀(L:List Tk) (ks:List Tr) (K:PV) (w:Str),KV K ks→(∀k∈ks,∃σ,E 26 [srV s T ts b,k.pv] [] (.str (k.prt s ts)) σ)→(∀t∈L,t.f≤t.e∧t.e≤s.length)→w.length+(prN s L (prts s ts ks)).length≤4294967296→
  ∃w' K' ks',KV K' ks'∧(∀k∈ks',k∈ks)∧w'++(bef (prts s ts ks') ((s.length:Nat)+1)).1=w++prN s L (prts s ts ks)∧
   ∃N,∀n,N≤n→∀m,iterL pur (run n) m lf26.aca lf26.ac lf26.La lf26.L (nn 35) lf26.ds (L.map fun t=>[t.pv]) (pF (srV s T ts b) x.pv x.kp none none (nn 19)) (stP (srV s T ts b) w K)=some (pF (srV s T ts b) x.pv x.kp none none (nn 19),stP (srV s T ts b) w' K')
 |[],ks,K,w,hK,hE,ht,hw=>⟨w,K,ks,hK,fun k h=>h,rfl,0,fun n _ m=>rfl⟩
 |t::L,ks,K,w,hK,hE,ht,hw=>by
  rw[prN] at hw;simp only[List.length_append] at hw;obtain⟨q1,q2⟩:=ht t (List.mem_cons_self ..);obtain⟨K1,ks1,h1,h2,h3,h4⟩:=e82 (w:=w) t.a hK hE (by omega)
  obtain⟨N1,H1⟩:=p_round (x:=x) t hK.noMap h1.noMap h4 q1 q2 (by rw[List.length_append];omega)
  obtain⟨w',K',ks',g1,g2,g3,N2,H2⟩:=p_iter hs L ks1 K1 (w++(bef (prts s ts ks) (t.a:Nat)).1++pcT s t) h1 (fun k hk=>hE k (h3 k hk)) (fun u hu=>ht u (List.mem_cons_of_mem _ hu)) (by rw[h2];simp only[List.length_append];omega)
  refine⟨w',K',ks',g1,fun k hk=>h3 k (g2 k hk),?_,max N1 N2,fun n hn m=>?_⟩
  ·rw[g3,h2,prN];simp only[List.append_assoc]
  ·rw[List.map_cons,iterL,H1 n (by omega) m]
   dsimp only;rw[H2 n (by omega) m]
theorem e26_one(hs:s.length<1000000000)(w:x.wf)(hE:∀k∈x.kids,∃σ,E 26 [srV s T ts b,k.pv] [] (.str (k.prt s ts)) σ){L:List Tk}(hi:itr 78 [.vptr (srV s T ts b),.vptr x.pv]=some (L.map fun t=>[t.pv]))(ht:∀t∈L,t.f≤t.e∧t.e≤s.length)
  (hb:(prN s L (prts s ts x.kids)).length≤4294967296):∃σ,E 26 [srV s T ts b,x.pv] [] (.str (prN s L (prts s ts x.kids))) σ:=by
 have hV:=sr_noMap s T ts b;have m4:=x.Az0;have m5:=kp_noMap x;have f1:=x.AzW;have f2:=AZJ x;have f3:=sr_free s T ts b;obtain⟨w',K',ks',g1,g2,g3,hit⟩:=p_iter (x:=x) hs L x.kids x.kp [] (KV.kp w) hE ht (by simpa using hb)
 have e0:(((s.length+1:Nat)):Int)=(s.length:Nat)+1:=by omega
 obtain⟨K2,ks2,u1,u2,u3,u4⟩:=e82 (w:=w') (s.length+1) g1 (fun k hk=>hE k (g2 k hk)) (by
  rw[e0,←List.length_append,g3];simpa using hb)
 rw[e0,g3,List.nil_append] at u4;have n1:AxU (srV s T ts b)=false:=Ax8 hV;have n2:AxU x.pv=false:=Ax8 m4;have n3:AxU (.vptr (srV s T ts b))=false:=Ax8 (by simp[PV.noMap,hV])
 have n4:AxU (.vptr x.pv)=false:=Ax8 (by simp[PV.noMap,m4])
 have n5:AxU (.vptr x.kp)=false:=Ax8 (by simp[PV.noMap,m5])
 have n6:AxU x.kp=false:=Ax8 m5;have n7:AxU (cl82 (srV s T ts b))=false:=Ax8 (by simp[PV.noMap,PV.AqI,hV])
 have n8:AxU (it78 (srV s T ts b) x.pv)=false:=Ax8 (by simp[PV.noMap,PV.AqI,hV,m4])
 have k0:keepF lf26.L (pF (srV s T ts b) x.pv x.kp none none (nn 19))=pF (srV s T ts b) x.pv x.kp none none (nn 19):=by
  simp only[keepF,lf26,pF,nn,List.zipWith,Option.filter,f1,f2,f3];rfl
 have k4:keepF lf26.Lr (some (srV s T ts b)::some x.pv::some (.vptr (srV s T ts b))::some (.vptr x.pv)::some (.str (prN s L (prts s ts x.kids)))::some (.ref 0 0)::some (.ref 1 0)::some (.ref 2 0)::none::some (.vptr x.kp)::some x.kp::some (cl82 (srV s T ts b))::some (srV s T ts b)::some x.pv::some (it78 (srV s T ts b) x.pv)::none::none::none::none::none::none::none::none::none::none::none::none::none::some (cl82 (srV s T ts b))::some (.vptr (.str s))::some (.str s)::some (N s.length)::some (N (s.length+1))::some (.tuple [])::[some (.str (prN s L (prts s ts x.kids)))])=some (srV s T ts b)::some x.pv::some (.vptr (srV s T ts b))::some (.vptr x.pv)::some (.str (prN s L (prts s ts x.kids)))::some (.ref 0 0)::some (.ref 1 0)::some (.ref 2 0)::none::some (.vptr x.kp)::some x.kp::some (cl82 (srV s T ts b))::some (srV s T ts b)::some x.pv::some (it78 (srV s T ts b) x.pv)::none::none::none::none::none::none::none::none::none::none::none::none::none::some (cl82 (srV s T ts b))::some (.vptr (.str s))::some (.str s)::some (N s.length)::some (N (s.length+1))::some (.tuple [])::[some (.str (prN s L (prts s ts x.kids)))]:=by
  simp only[keepF,lf26,List.zipWith,Option.filter,f1,f2,f3];rfl
 refine⟨_,lf_go (f:=lf26) (g:=26) (X:=nn 35) (fun _ _ _=>rfl) ⟨rfl,by show 2≤35;decide⟩ (AwI (p_pre1 s T x ts b) (AwI (p_pre2 s T x ts b) (AwI (p_pre3 s T x ts b) (AwI (p_pre4 s T x ts b) pre_nil)))) (p_rg s T x ts b _) rfl hi ?_
  ⟨AzV (st_quiet hV m5) _ ?_,rfl,rfl,rfl,by simp[PV.flat],by simp<;>(intros;rfl)⟩ ?_ (p_post (x:=x) u4 (by omega)) ⟨.inr rfl,AzV (by simp[PV.AqI,PV.noMap,hV,u1.noMap]) _ ?_,rfl⟩ ?_⟩
 ·simp only[keepX,lf26,pF,nn,List.zipWith,Option.filter,n1,n2,n3,n4,n5,n6,n7,n8];rfl
 ·rw[k0];simp[hideF,nn,pF,PV.noMap,PV.AqI,hV,m4,m5]
 ·rw[k0];exact hit
 ·rw[k4];simp[hideF,nn,PV.noMap,PV.AqI,hV,m4,m5]
 ·rw[k4];rfl
end
end Go.Abs.Z

namespace Go.Abs.Z
open Go.Proofs Go.RowKit
set_option linter.unusedVariables false
theorem nds_pos(x:Tr):0<x.nds.length:=by cases x;simp[Tr.nds]
mutual
theorem nodeL_ok:∀(x:Tr) (n:Nat),x.wf→2 * x.nds.length≤n→nodeL n x.pv=some (x.nds.map Tr.pv)
 |.mk k t a e b ks,n,w,h=>by
  rw[Tr.nds,List.length_cons] at h;obtain⟨n,rfl⟩:∃m,n=m+1:=⟨n - 1,by omega⟩
  cases b with
  |true=>
   have:ks=[]:=w.1 rfl;subst this;rfl
  |false=>
   have:=nodesL_ok ks n w.2 (by omega)
   show(AzY n (Tr.pvs ks)).map _=_;rw[this];rfl
theorem nodesL_ok:∀(xs:List Tr) (n:Nat),Tr.wfs xs→2 * (ndss xs).length+1≤n→AzY n (Tr.pvs xs)=some ((ndss xs).map Tr.pv)
 |[],n,_,h=>by
  obtain⟨n,rfl⟩:∃m,n=m+1:=⟨n - 1,by omega⟩
  rfl
 |x::xs,n,w,h=>by
  rw[ndss,List.length_append] at h;have:=nds_pos x;obtain⟨n,rfl⟩:∃m,n=m+1:=⟨n - 1,by omega⟩
  show(match nodeL n x.pv,AzY n (Tr.pvs xs) with | some l,some r=>some (l++r) | _,_=>none)=_
  rw[nodeL_ok x n w.1 (by omega),nodesL_ok xs n w.2 (by omega),ndss,List.map_append]
end
theorem e7n{x:Tr}(w:x.wf)(h:x.nds.length≤400000):E 7 [x.pv] [] (N x.nds.length) []:=e7 x [] rfl (nodeL_ok x 1000000 w (by omega)) (by omega)
theorem AZL:∀xs:List Tr,xs.length≤(ndss xs).length
 |[]=>Nat.le_refl _
 |x::xs=>by
  have:=AZL xs;have:=nds_pos x;rw[ndss,List.length_append,List.length_cons];omega
theorem kid_le:∀{xs:List Tr} {k:Tr},k∈xs→k.nds.length≤(ndss xs).length
 |x::xs,k,h=>by
  rw[ndss,List.length_append];rcases List.mem_cons.1 h with rfl | h
  ·omega
  ·have:=kid_le h;omega
theorem nds_kids(x:Tr):x.nds.length=1+(ndss x.kids).length:=by cases x;simp[Tr.nds,Tr.kids,Nat.add_comm]
theorem inP_ok(t:Tk)(x:Tr):inP t.pv x.pv=some (inT x t):=by
 obtain⟨k,tx,a,e,b,ks⟩:=x
 have h:(((t.k:Nat):Int) != 5)=(t.k != 5):=by
  by_cases h:t.k=5
  ·rw[h];rfl
  ·rw[show(t.k != 5)=true by simp[h]]
   exact bne_iff_ne.2 (by omega)
 cases b
 ·show some _=some _;rw[h];rfl
 ·show some _=some _;rw[h];rfl
theorem anyP_ok(t:Tk):∀ks:List Tr,anyP t.pv (Tr.pvs ks)=some (ks.any fun k=>inT k t)
 |[]=>rfl
 |k::ks=>by
  show(match inP t.pv k.pv with | some true=>some true | some false=>anyP t.pv (Tr.pvs ks) | none=>none)=_
  rw[inP_ok,List.any_cons];cases inT k t with
  |true=>rfl
  |false=>exact anyP_ok t ks
theorem ownP_ok(t:Tk)(x:Tr):ownP t.pv x.pv x.kind (Tr.pvs x.kids)=some (ownT x t):=by
 have h:(((t.k:Nat):Int)==5)=(t.k==5):=by
  by_cases h:t.k=5
  ·rw[h];rfl
  ·rw[show(t.k==5)=false by simp[h]]
   exact beq_eq_false_iff_ne.2 (by omega)
 show(match inP t.pv x.pv,t.pv with
  |some b,.agg (.int .i64 k::_)=>if b||(k==5&&x.kind==2) then(anyP t.pv (Tr.pvs x.kids)).map (! ·) else some false
  |_,_=>none)=_
 rw[inP_ok];show(if inT x t||(((t.k:Nat):Int)==5&&x.kind==2) then(anyP t.pv (Tr.pvs x.kids)).map (! ·) else some false)=_
 rw[h,anyP_ok];unfold ownT mineT;cases inT x t||(t.k==5&&x.kind==2)<;>rfl
theorem ownsP_ok(x:Tr):∀ts:List Tk,ownsP x.pv x.kind (Tr.pvs x.kids) (ts.map Tk.pv)=some ((ts.filter (ownT x)).map Tk.pv)
 |[]=>rfl
 |t::ts=>by
  show(match ownP t.pv x.pv x.kind (Tr.pvs x.kids),ownsP x.pv x.kind (Tr.pvs x.kids) (ts.map Tk.pv) with
   |some true,some l=>some (t.pv::l)
   |some false,some l=>some l
   |_,_=>none)=_
  rw[ownP_ok,ownsP_ok x ts,List.filter_cons];cases ownT x t<;>rfl
theorem pvs_nd:∀ks:List Tr,(Tr.pvs ks).all isNd=true
 |[]=>rfl
 |k::ks=>by
  obtain⟨kd,tx,a,e,b,l⟩:=k;rw[Tr.pvs,List.all_cons,pvs_nd ks];cases b<;>rfl
theorem itr78_ok{s:Str}{T x:Tr}{ts:List Tk}{b:Bool}(w:x.wf)(ht:ts.length≤1000000000)(hk:x.kids.length≤1000000000):itr 78 [.vptr (srV s T ts b),.vptr x.pv]=some ((ts.filter (ownT x)).map fun t=>[t.pv]):=by
 have hT:isSl' T.kp=true:=by obtain⟨k,t,a,e,n,ks⟩:=T;cases n<;>rfl
 have ho:=ownsP_ok x ts;have hnd:=pvs_nd x.kids;have hsm:small (ts.map Tk.pv)=true:=by simp[small,ht]
 have hsk:small (Tr.pvs x.kids)=true:=by rw[Tr.AjL];simp[small,hk]
 have hkp:kidsP x.kp=some (Tr.pvs x.kids):=by
  obtain⟨kd,tx,a,e,n,ks⟩:=x;cases n
  ·rfl
  ·have:ks=[]:=w.1 rfl;subst this;rfl
 rw[Tr.pv_nd] at ho ⊢;unfold itr;rw[if_neg (by decide),if_pos rfl]
 show(if isSl' T.kp then(match kidsP x.kp with
    |some ks=>(match ownsP (nd x.kind x.text x.st x.en x.kp) x.kind ks (ts.map Tk.pv) with
     |some l=>if small (ts.map Tk.pv)&&(small ks&&ks.all isNd) then some (l.map fun x=>[x.Aq0]) else none
     |none=>none)
    |none=>none) else none)=_
 rw[if_pos hT,hkp];dsimp only;rw[ho];dsimp only;rw[hsm,hsk,hnd];show some (((ts.filter (ownT x)).map Tk.pv).map fun x=>[x.Aq0])=_
 rw[List.map_map];rfl
theorem flat_le{s:Str}(p:Tk→Bool):∀ts:List Tk,((ts.filter p).flatMap (pcT s)).length≤(ts.flatMap (pcT s)).length
 |[]=>Nat.le_refl _
 |t::ts=>by
  have:=flat_le (s:=s) p ts;rw[List.filter_cons,List.flatMap_cons,List.length_append];split
  ·rw[List.flatMap_cons,List.length_append];omega
  ·omega
section
variable{s:Str}{ts:List Tk}
mutual
theorem pb_in(hs:Srt ts)(h0:∀t∈ts,t.a≤t.e∧(t.k≠5→t.a<t.e))(hl:(ts.flatMap (pcT s)).length≤4294967296):∀x:Tr,x.ins→x.cuts ts→x.no2→x.en≤(s.length:Nat)→x.pb s ts
 |.mk kd tx st en b ks,hi,hc,h2,he=>⟨by
   rw[prt_in hs h0 (.mk kd tx st en b ks) hi hc h2 he];exact Nat.le_trans (flat_le _ ts) hl,pbs_in hs h0 hl ks hi hc.2.2 h2.2 he⟩
theorem pbs_in(hs:Srt ts)(h0:∀t∈ts,t.a≤t.e∧(t.k≠5→t.a<t.e))(hl:(ts.flatMap (pcT s)).length≤4294967296):∀(xs:List Tr) {a e:Int},inss a e xs→cutss ts xs→no2s xs→e≤(s.length:Nat)→pbs s ts xs
 |[],_,_,_,_,_,_=>trivial
 |x::xs,a,e,hi,hc,h2,he=>by
  obtain⟨i1,i2,i3,i4,i5⟩:=hi;have hle:x.en≤(s.length:Nat):=by omega
  exact⟨pb_in hs h0 hl x i4 hc.1 h2.1 hle,pbs_in hs h0 hl xs i5 hc.2 h2.2 he⟩
end
end
mutual

theorem e26_all{s:Str}{T:Tr}{ts:List Tk}{b:Bool}(hs:s.length<1000000000)(ht:∀t∈ts,t.f≤t.e∧t.e≤s.length)(hl:ts.length≤1000000000):∀x:Tr,x.wf→x.pb s ts→x.nds.length≤400000→∃σ,E 26 [srV s T ts b,x.pv] [] (.str (x.prt s ts)) σ
 |.mk kd tx st en n ks,w,hp,hn=>by
  rw[Tr.nds,List.length_cons] at hn;have hk:=AZL ks;rw[Tr.prt];have hb:=hp.1;rw[Tr.prt] at hb;exact e26_one (x:=.mk kd tx st en n ks) hs w (e26_alls hs ht hl ks w.2 hp.2 (by omega)) (itr78_ok w hl (by show ks.length≤_;omega)) (fun t h=>ht t (List.mem_filter.1 h).1) hb
theorem e26_alls{s:Str}{T:Tr}{ts:List Tk}{b:Bool}(hs:s.length<1000000000)(ht:∀t∈ts,t.f≤t.e∧t.e≤s.length)(hl:ts.length≤1000000000):∀xs:List Tr,Tr.wfs xs→pbs s ts xs→(ndss xs).length≤400000→∀k∈xs,∃σ,E 26 [srV s T ts b,k.pv] [] (.str (k.prt s ts)) σ
 |[],_,_,_,k,h=>by cases h
 |x::xs,w,hp,hn,k,h=>by
  rw[ndss,List.length_append] at hn;rcases List.mem_cons.1 h with e | h
  ·rw[e];exact e26_all hs ht hl x w.1 hp.1 (by omega)
  ·exact e26_alls hs ht hl xs w.2 hp.2 (by omega) k h
end
end Go.Abs.Z

namespace Go.Abs.Z
open Go.Proofs Go.RowKit
set_option linter.unusedVariables false
def Tr.atP:Tr→List Nat→Option Tr
 |T,[]=>some T
 |T,i::p=>match T.kids[i]? with
  |some k=>k.atP p
  |none=>none
theorem atP_cons{T K:Tr}{i:Nat}{p:List Nat}(h:T.kids[i]?=some K):T.atP (i::p)=K.atP p:=by rw[Tr.atP,h]
theorem kid_wf{T K:Tr}{i:Nat}(w:T.wf)(h:T.kids[i]?=some K):K.wf:=by
 obtain⟨k,t,a,e,n,ks⟩:=T;exact Tr.wfs_mem w.2 K (List.mem_of_getElem? h)
theorem kid_loop{T:Tr}(w:T.wf)(hT:T.nds.length≤400000){p:List PV}(hp:p.length+1≤AqC):∀(l:List Tr) (i n:Nat),T.kids.drop i=l→n<(ndss l).length→
  ∃j K m,T.kids[j]?=some K∧m<K.nds.length∧(ndss l)[n]?=K.nds[m]?∧K.nds.length≤(ndss l).length∧
   LL a22 1 [(1,some (N n)),(2,some T.pv),(6,some (accP 1 p)),(23,some T.kp),(24,some (N T.kids.length)),(25,some (N i))] [] (.exit 2) [(1,some (N m)),(2,some K.pv),(6,some (accP 1 (p++[N j])))] []
 |[],i,n,hd,hn=>by simp[ndss] at hn
 |K::l,i,n,hd,hn=>by
  have hi:T.kids[i]?=some K:=by
   have:=congrArg List.head? hd
   rwa [List.head?_drop,List.head?_cons] at this
  have hil:i<T.kids.length:=(List.getElem?_eq_some_iff.1 hi).1
  have hk:=AZL T.kids;have hn2:=nds_kids T;rw[ndss,List.length_append] at hn;have hKl:K.nds.length≤(ndss T.kids).length:=kid_le (List.mem_of_getElem? hi);have h7:=e7n (kid_wf w hi) (by omega)
  by_cases hc:n<K.nds.length
  ·refine⟨i,K,n,hi,hc,?_,by rw[ndss,List.length_append];omega,y22f w hil hi h7 hc hp⟩
   rw[ndss,List.getElem?_append_left hc]
  ·have hll:(ndss l).length≤(ndss T.kids).length:=by
    have:∀(xs:List Tr) (i:Nat),(ndss (xs.drop i)).length≤(ndss xs).length:=by
     intro xs
     induction xs with
     |nil=>intro i;simp
     |cons x xs ih=>
      intro i;cases i with
      |zero=>exact Nat.le_refl _
      |succ i=>have:=ih i;rw[List.drop_succ_cons,ndss,List.length_append];omega
    have h2:T.kids.drop (i+1)=l:=by rw[←List.tail_drop,hd];rfl
    rw[←h2];exact this _ _
   obtain⟨j,K',m,g1,g2,g3,g4,g5⟩:=kid_loop w hT hp l (i+1) (n - K.nds.length) (by rw[←List.tail_drop,hd];rfl) (by omega)
   refine⟨j,K',m,g1,g2,?_,by rw[ndss,List.length_append];omega,y22k w hil (by omega) hi h7 (by omega) (by omega) g5⟩
   rw[ndss,List.getElem?_append_right (by omega)];exact g3
theorem path_loop:∀(c:Nat) (T:Tr) (n:Nat) (q:List Nat),T.nds.length≤c→T.wf→n<T.nds.length→q.length+T.nds.length≤400000→
  ∃p U,T.atP p=some U∧T.nds[n]?=some U∧p.length≤T.nds.length∧
   LL a22 0 [(1,some (N n)),(2,some T.pv),(6,some (accP 1 (q.map N)))] [] (.exit 0) [(1,some (N 0)),(2,some U.pv),(6,some (accP 1 ((q++p).map N)))] []
 |0,T,n,q,hc,w,hn,hq=>by omega
 |c+1,T,n,q,hc,w,hn,hq=>by
  cases n with
  |zero=>
   refine⟨[],T,rfl,by cases T;rfl,Nat.zero_le _,?_⟩
   rw[List.append_nil];exact y22x
  |succ n=>
   have hk:=nds_kids T;obtain⟨j,K,m,g1,g2,g3,g4,g5⟩:=kid_loop (p:=q.map N) w (by omega) (by rw[List.length_map];unfold AqC;omega) T.kids 0 n rfl (by omega)
   obtain⟨p,U,h1,h2,h3,h4⟩:=path_loop c K m (q++[j]) (by omega) (kid_wf w g1) g2 (by simp;omega)
   refine⟨j::p,U,by rw[atP_cons g1,h1],?_,by rw[List.length_cons];omega,?_⟩
   ·have:T.nds[n+1]?=(ndss T.kids)[n]?:=by cases T;rfl
    rw[this,g3,h2]
   ·have e:(q++j::p).map N=(q++[j]++p).map N:=by rw[List.append_assoc];rfl
    have e2:(q++[j]).map N=q.map N++[N j]:=by rw[List.map_append];rfl
    rw[e2] at h4;rw[e];exact y22n w (by omega) (by omega) g5 h4
theorem e22_{T:Tr}{n:Nat}(w:T.wf)(hT:T.nds.length≤400000)(hn:n<T.nds.length):∃p U,T.atP p=some U∧T.nds[n]?=some U∧p.length≤400000∧E 22 [T.pv,N n] [] (.tuple [accD 1 (p.map N),.bool true]) []:=by
 obtain⟨p,U,h1,h2,h3,h4⟩:=path_loop _ T n [] (Nat.le_refl _) w hn (by simpa using hT)
 exact⟨p,U,h1,h2,by omega,y22 hn (e7n w hT) h4⟩
theorem get_loop{U:Tr}{P:List Nat}(hP:P.length≤400000):∀(r:List Nat) (j:Nat) (T:Tr),P.drop j=r→T.wf→T.atP r=some U→
  LL a23 0 [(2,some T.pv),(4,some (.agg [I 0,.str [],I 0,I 0,.nils])),(8,some (accD 1 (P.map N))),(9,some (N P.length)),(10,some (N j))] [] (.exit 0) [(2,some U.pv),(4,some (.agg [I 0,.str [],I 0,I 0,.nils]))] []
 |[],j,T,hd,w,h=>by
  cases h;exact y23x (by rw[List.drop_eq_nil_iff] at hd;omega)
 |i::r,j,T,hd,w,h=>by
  have hi:P[j]?=some i:=by
   have:=congrArg List.head? hd
   rwa [List.head?_drop,List.head?_cons] at this
  have hj:j<P.length:=(List.getElem?_eq_some_iff.1 hi).1
  rw[Tr.atP] at h
  split at h
  ·rename_i K hK;exact y23n w hj hi (List.getElem?_eq_some_iff.1 hK).1 hK (by omega) (get_loop hP r (j+1) K (by rw[←List.tail_drop,hd];rfl) (kid_wf w hK) h)
  ·cases h
theorem e23_{T U:Tr}{p:List Nat}(w:T.wf)(hp:p.length≤400000)(h:T.atP p=some U):E 23 [T.pv,accD 1 (p.map N)] [] (.tuple [U.pv,.bool true]) []:=
 y23 (get_loop hp p 0 T rfl w h)
theorem eq_loop{T:Tr}(w:T.wf)(hl:T.kids.length<2000000000)(hE:∀k∈T.kids,E 76 [k.pv,k.pv] [] (.bool true) []):∀(c j:Nat),T.kids.length - j≤c→
  LL a145 0 [(1,some T.kp),(2,some (.func 76 [] [])),(15,some T.kp),(16,some (N T.kids.length)),(17,some (N j))] [] (.exit 0) [] []
 |c,j,hc=>by
  by_cases hj:j<T.kids.length
  ·cases c with
   |zero=>omega
   |succ c=>
    have hU:=List.getElem?_eq_getElem hj
    exact y145n w hj hU (hE _ (List.getElem_mem hj)) (by omega) (eq_loop w hl hE c (j+1) (by omega))
  ·exact y145x hj
mutual
theorem e76_:∀T:Tr,T.wf→T.nds.length≤400000→E 76 [T.pv,T.pv] [] (.bool true) []
 |.mk k t a e n ks,w,hn=>by
  rw[Tr.nds,List.length_cons] at hn;have hk:=AZL ks;exact y76 _ (y145 w (eq_loop w (by show ks.length<_;omega) (e76s ks w.2 (by omega)) _ 0 (Nat.le_refl _)))
theorem e76s:∀xs:List Tr,Tr.wfs xs→(ndss xs).length≤400000→∀k∈xs,E 76 [k.pv,k.pv] [] (.bool true) []
 |[],_,_,k,h=>by cases h
 |x::xs,w,hn,k,h=>by
  rw[ndss,List.length_append] at hn;rcases List.mem_cons.1 h with e | h
  ·rw[e];exact e76_ x w.1 (by omega)
  ·exact e76s xs w.2 (by omega) k h
end
section
variable{s:Str}{T:Tr}{ts:List Tk}{D:List PV}(w:T.wf)(hT:T.nds.length≤400000)(hl:ts.length≤1000000000)
 (h5:E 5 [.str s] [] (.tuple [T.pv,accD 5 D,I 0]) []) (h6:E 6 [.str s] [] (.tuple [.slice false 4 (ts.map Tk.pv),I 0]) [])
include w hT hl h5 h6
theorem e8_{n:Nat}{U:Tr}(hU:T.nds[n]?=some U)(wU:U.wf)(hk:U.kids.length≤1000000000):E 8 [.str s,T.pv,N n] [] (.tuple [accD 4 ((ts.filter (ownT U)).map Tk.pv),I 0]) []:=by
 have h21:=y21 (T:=T) rfl h5 h6 (e76_ T w hT);obtain⟨p,U',h1,h2,h3,h4⟩:=e22_ w hT (List.getElem?_eq_some_iff.1 hU).1
 rw[hU] at h2;cases h2;have hn:(PV.func 78 [] [.vptr (srV s T ts (decide (((D.length:Nat):Int) > 0))),.vptr U.pv]).noMap=true:=by simp[PV.noMap,PV.AqI,sr_noMap,Tr.Az0]
 obtain⟨σ,h24⟩:=e24 hn rfl (itr78_ok wU hl hk) (by
  have:=List.length_filter_le (ownT U) ts;unfold AqC;omega)
 exact y8_ h21 h4 (e23_ w h3 h1) h24 ⟨AJ9 ..,AJA ..,flat0_accd ..,Aw1 ..⟩
theorem e9_(hs:s.length<1000000000)(ht:∀t∈ts,t.f≤t.e∧t.e≤s.length)(hp:T.pb s ts):E 9 [.str s,T.pv] [] (.tuple [.str (T.prt s ts),I 0]) []:=by
 have h21:=y21 (T:=T) rfl h5 h6 (e76_ T w hT);obtain⟨σ,h26⟩:=e26_all hs ht hl T w hp hT;exact y9_ h21 h26
end
end Go.Abs.Z

namespace Go.Abs.Z
open Go.Proofs Go.RowKit
set_option linter.unusedVariables false
set_option linter.unusedSimpArgs false
theorem PR(σ:Sto){k:PK}{vs:List PV}{rs:List (Option PV)}(h:semP k vs=some rs):OpEv pur runA (.p k) vs σ rs σ:=op_p h
theorem QR(σ:Sto){k:RK}{vs:List PV}{rs:List (Option PV)}(h:semR k vs σ=some rs):OpEv pur runA (.r k) vs σ rs σ:=op_r h
def tkx(t:Tk):Kx:=.a [(.i64,(t.k:Nat)),(.i64,(t.f:Nat)),(.i64,(t.a:Nat)),(.i64,(t.e:Nat))]
theorem tkx_inj{t u:Tk}(h:tkx t=tkx u):t=u:=by
 obtain⟨a,b,c,d⟩:=t;obtain⟨a',b',c',d'⟩:=u;simp only[tkx,Kx.a.injEq,List.cons.injEq,Prod.mk.injEq,Int.ofNat_inj,true_and,and_true] at h;obtain⟨h1,h2,h3,h4⟩:=h;subst h1 h2 h3 h4;rfl
def mS(L:List Tk):Sto:=[[.mapo (.a [.i64,.i64,.i64,.i64]) (I 0) (L.map tkx) (L.map fun _=>I 1)]]
theorem find_no{t:Tk}:∀{L:List Tk},t∉L→findX (tkx t) (L.map tkx)=none
 |[],_=>rfl
 |u::L,h=>by
  rw[List.map_cons,findX,if_neg (fun e=>h (by rw[tkx_inj e];exact List.mem_cons_self ..)),find_no fun h'=>h (List.mem_cons_of_mem _ h')];rfl
theorem find_yes{t:Tk}:∀{L:List Tk},t∈L→∃j,findX (tkx t) (L.map tkx)=some j∧j<L.length
 |u::L,h=>by
  rw[List.map_cons,findX];by_cases e:tkx u=tkx t
  ·rw[if_pos e];exact⟨0,rfl,by simp⟩
  ·rw[if_neg e];rcases List.mem_cons.1 h with rfl | h
   ·exact absurd rfl e
   ·obtain⟨j,h1,h2⟩:=find_yes h;exact⟨j+1,by rw[h1];rfl,by simp;omega⟩
theorem kx_tk(t:Tk):kxOf (.a [.i64,.i64,.i64,.i64]) t.pv=some (tkx t):=by
 show(if[IntKind.i64,.i64,.i64,.i64]=[IntKind.i64,.i64,.i64,.i64] then some (tkx t) else none)=_
 rw[if_pos rfl]
section
variable{L:List Tk}{t:Tk}
theorem lk_x{v:PV}(h:(match lookX (tkx t) (L.map tkx) (L.map fun _=>I 1) with | some v=>lkR false v true | none=>lkR false (I 0) false)=some [some v]):semR (.lkM (I 0) false (.a [.i64,.i64,.i64,.i64])) [.mref 0,t.pv] (mS L)=some [some v]:=by
 show(match mapOf (mS L)[0]?,kxOf (.a [.i64,.i64,.i64,.i64]) t.pv with
  |some (d',z',ks,vs),some x=>if d'=KD.a [.i64,.i64,.i64,.i64]∧zsame (I 0) z'=true then(match lookX x ks vs with
    |some v=>lkR false v true
    |none=>lkR false z' false) else none
  |_,_=>none)=_
 rw[kx_tk];show(if _ then _ else _)=_
 rw[if_pos ⟨rfl,rfl⟩];exact h
theorem lk_0(h:t∉L):semR (.lkM (I 0) false (.a [.i64,.i64,.i64,.i64])) [.mref 0,t.pv] (mS L)=some [some (I 0)]:=lk_x (by rw[lookX,find_no h];rfl)
theorem lk_1(h:t∈L):semR (.lkM (I 0) false (.a [.i64,.i64,.i64,.i64])) [.mref 0,t.pv] (mS L)=some [some (I 1)]:=lk_x (by
 obtain⟨j,h1,h2⟩:=find_yes h;rw[lookX,h1,Option.bind_some,List.getElem?_map,List.getElem?_eq_getElem h2];rfl)
theorem ln_m{n:Nat}(h:L.length=n):semR .lnM [.mref 0] (mS L)=some [some (N n)]:=by
 show some [some (PV.int .i64 ((L.map tkx).length:Nat))]=_;rw[List.length_map,h]
def mS1(L:List Tk)(t:Tk):Sto:=[[.mapo (.a [.i64,.i64,.i64,.i64]) (I 0) (L.map tkx++[tkx t]) ((L.map fun _=>I 1)++[I 0])]]
theorem en_0{R:Nat→Caller}(h:t∉L)(hm:L.length<AqC):OpEv pur R (.w (.enM (I 0) (.a [.i64,.i64,.i64,.i64]))) [.mref 0,t.pv] (mS L) [some (.tuple [I 0,N L.length])] (mS1 L t):=by
 refine⟨0,fun n _=>?_⟩
 show(match mapOf (mS L)[0]?,kxOf (.a [.i64,.i64,.i64,.i64]) t.pv with
  |some (d',z',ks,vs),some x=>if d'=KD.a [.i64,.i64,.i64,.i64]∧zsame (I 0) z'=true∧z'.flat then(match findX x ks with
    |some j=>match vs[j]? with
     |some v=>if v.flat||v.isRef then some (([some (PV.tuple [v.Aq0,.int .i64 j])],mS L):List (Option PV)×Sto) else none
     |none=>none
    |none=>if ks.length<AqC∧vs.length=ks.length then some (([some (PV.tuple [z'.Aq0,.int .i64 ks.length])],(mS L).set 0 [.mapo d' z' (ks++[x]) (vs++[z'])]):List (Option PV)×Sto) else none) else none
  |_,_=>none)=_
 rw[kx_tk];show(if _ then _ else _)=_
 rw[if_pos ⟨rfl,rfl,rfl⟩,find_no h];dsimp only;rw[if_pos ⟨by simpa using hm,by simp⟩]
 simp only[List.length_map];rfl
theorem es_0{R:Nat→Caller}(L:List Tk)(t:Tk):OpEv pur R (.w .esM) [.mref 0,N L.length,I 1] (mS1 L t) [] (mS (L++[t])):=by
 refine⟨0,fun n _=>?_⟩
 show(if(0:Int)≤(L.length:Nat)∧((L.length:Nat):Int) < (((L.map fun _=>I 1)++[I 0]).length:Nat)∧true=true then some (([]:List (Option PV)),(mS1 L t).set 0 [.mapo (.a [.i64,.i64,.i64,.i64]) (I 0) (L.map tkx++[tkx t]) (((L.map fun _=>I 1)++[I 0]).set ((L.length:Nat):Int).toNat (I 1))]) else none)=_
 rw[if_pos ⟨by omega,by simp;omega,rfl⟩]
 have:((L.map fun _=>I 1)++[I 0]).set ((L.length:Nat):Int).toNat (I 1)=(L++[t]).map fun _=>I 1:=by
  rw[Int.toNat_natCast,List.set_append_right _ _ (by simp)]
  simp
 rw[this];simp[mS,mS1]
end
theorem r3a{s:List UInt8}(h:((s.length:Nat):Int) > 400):Runs a3 [.str s] [] (.bool true) []:=
 ruleL [st 3 (PR [] (AxO .i64 h)),st 1 (oCA evA7)]
theorem r3b{s:List UInt8}{T:Tr}{ts:List Tk}{L:List Tk}{c:Nat}{p:List PV}(hs:¬((s.length:Nat):Int) > 400)(h5:Ev runA 5 [.str s] [] (.tuple [T.pv,accD 5 p,I 0]) [])(h6:Ev runA 6 [.str s] [] (.tuple [.slice false 4 (ts.map Tk.pv),I 0]) [])(h7:Ev runA 7 [T.pv] [] (N c) [])(h9:Ev runA 9 [.str s,T.pv] [] (.tuple [.str s,I 0]) [])(hL:L.length=ts.length)(l0:LM a3 0 [(0,some (.str s)),(3,some (.vptr T.pv)),(6,some (.slice false 4 (ts.map Tk.pv))),(8,some (.mref 0)),(35,some (N c)),(36,some (N 0))] (mS []) (.exit 0) [(0,some (.str s)),(3,some (.vptr T.pv)),(6,some (.slice false 4 (ts.map Tk.pv))),(8,some (.mref 0))] (mS L))(l2:LM a3 2 [(0,some (.str s)),(3,some (.vptr T.pv)),(6,some (.slice false 4 (ts.map Tk.pv))),(8,some (.mref 0)),(62,some (.slice false 4 (ts.map Tk.pv))),(63,some (N ts.length)),(64,some (N 0))] (mS L) (.exit 4) [(0,some (.str s)),(3,some (.vptr T.pv)),(6,some (.slice false 4 (ts.map Tk.pv))),(8,some (.mref 0))] (mS L)):Runs a3 [.str s] [] (.bool true) (mS L):=
 ruleL [st 3 (PR [] (Az7 .i64 hs)),st 2 (op_c (σ:=[]) (vs:=[.str s]) (r':=.tuple [T.pv,accD 5 p,I 0]) h5 rfl rfl (by simp) rfl),st 1 (PR [] (AkJ (l:=[T.pv,accD 5 p,I 0]) 0 (v:=T.pv) rfl (by simp) (by simp))),st 0 (PR [] (AkJ (l:=[T.pv,accD 5 p,I 0]) 1 (v:=accD 5 p) rfl (by simp) (by simp))),st 0 (PR [] (AkJ (l:=[T.pv,accD 5 p,I 0]) 2 (v:=I 0) rfl (by simp) (by simp))),st 1 (PR [] (AqN T)),st 0 (PR [] (AzE 5 p)),st 2 (oCA h6),st 7 (QR (mS []) (ld_tr T)),st 0 (op_c (σ:=mS []) (vs:=[T.pv]) h7 (by simp) (by simp) rfl rfl),sl 1 [0,3,6,8,35,36] l0,st 1 (PR (mS L) (len_tks false 4 ts)),sl 1 [0,3,6,8,62,63,64] l2,st 1 (QR (mS L) (ld_tr T)),st 0 (op_c (σ:=mS L) (vs:=[.str s,T.pv]) h9 (by simp) (by simp) rfl rfl),st 6 (QR (mS L) (ln_m hL)),st 1 (PR (mS L) (len_tks false 4 ts)),st 0 (PR (mS L) (AqR .i64 (rfl:((ts.length:Nat):Int)=((ts.length:Nat):Int)))),sg 7 (PR (mS L) (AQX (rfl:s=s))),sg 2 (op_c (σ:=mS L) (vs:=[]) evA7 rfl rfl rfl rfl)]
theorem l3n{s:List UInt8}{T:Tr}{ts:List Tk}{L:List Tk}{c j:Nat}{R L':List Tk}(hj:j<c)(h8:Ev runA 8 [.str s,T.pv,N j] [] (.tuple [accD 4 (R.map Tk.pv),I 0]) [])(l:j<2000000000)(l1:LM a3 1 [(0,some (.str s)),(3,some (.vptr T.pv)),(6,some (.slice false 4 (ts.map Tk.pv))),(8,some (.mref 0)),(35,some (N c)),(36,some (N j)),(48,some (accD 4 (R.map Tk.pv))),(49,some (N R.length)),(50,some (N 0))] (mS L) (.exit 2) [(0,some (.str s)),(3,some (.vptr T.pv)),(6,some (.slice false 4 (ts.map Tk.pv))),(8,some (.mref 0)),(35,some (N c)),(36,some (N j))] (mS L')){e:AExit}{ff1:FF}{σ1:Sto}(hl:LM a3 0 [(0,some (.str s)),(3,some (.vptr T.pv)),(6,some (.slice false 4 (ts.map Tk.pv))),(8,some (.mref 0)),(35,some (N c)),(36,some (N (j+1)))] (mS L') e ff1 σ1):LM a3 0 [(0,some (.str s)),(3,some (.vptr T.pv)),(6,some (.slice false 4 (ts.map Tk.pv))),(8,some (.mref 0)),(35,some (N c)),(36,some (N j))] (mS L) e ff1 σ1:=
 ruleNR [0,3,6,8,35,36] [st 0 (PR (mS L) (Aq6 .i64 (show(j:Int) < (c:Int) by omega))),st 4 (QR (mS L) (ld_tr T)),st 1 (op_c (σ:=mS L) (vs:=[.str s,T.pv,N j]) (r':=.tuple [accD 4 (R.map Tk.pv),I 0]) h8 (by simp) (by simp) (by simp) rfl),st 1 (PR (mS L) (AkJ (l:=[accD 4 (R.map Tk.pv),I 0]) 0 (v:=accD 4 (R.map Tk.pv)) rfl (by simp) (by simp))),st 0 (PR (mS L) (AkJ (l:=[accD 4 (R.map Tk.pv),I 0]) 1 (v:=I 0) rfl (by simp) rfl)),st 0 (PR (mS L) (AzE 4 (R.map Tk.pv))),st 4 (PR (mS L) (AzE 4 (R.map Tk.pv))),st 0 (PR (mS L) (len_accm 4 Tk.pv R)),sl 1 [0,3,6,8,35,36,48,49,50] l1,st 0 (PR (mS L') (Aq4 j 1 l (by decide)))] hl
theorem l3x{s:List UInt8}{T:Tr}{ts:List Tk}{L:List Tk}{c j:Nat}(hj:¬j<c):LM a3 0 [(0,some (.str s)),(3,some (.vptr T.pv)),(6,some (.slice false 4 (ts.map Tk.pv))),(8,some (.mref 0)),(35,some (N c)),(36,some (N j))] (mS L) (.exit 0) [(0,some (.str s)),(3,some (.vptr T.pv)),(6,some (.slice false 4 (ts.map Tk.pv))),(8,some (.mref 0))] (mS L):=
 ruleXR [0,3,6,8] [st 0 (PR (mS L) (AqJ .i64 (show ¬(j:Int) < (c:Int) by omega)))]
theorem l3in{s:List UInt8}{T:Tr}{ts:List Tk}{L:List Tk}{c j i:Nat}{R:List Tk}{t:Tk}(hi:i<R.length)(ht:R[i]?=some t)(hn:t∉L)(hm:L.length<AqC)(l:i<2000000000){e:AExit}{ff1:FF}{σ1:Sto}(hl:LM a3 1 [(0,some (.str s)),(3,some (.vptr T.pv)),(6,some (.slice false 4 (ts.map Tk.pv))),(8,some (.mref 0)),(35,some (N c)),(36,some (N j)),(48,some (accD 4 (R.map Tk.pv))),(49,some (N R.length)),(50,some (N (i+1)))] (mS (L++[t])) e ff1 σ1):LM a3 1 [(0,some (.str s)),(3,some (.vptr T.pv)),(6,some (.slice false 4 (ts.map Tk.pv))),(8,some (.mref 0)),(35,some (N c)),(36,some (N j)),(48,some (accD 4 (R.map Tk.pv))),(49,some (N R.length)),(50,some (N i))] (mS L) e ff1 σ1:=
 ruleNR [0,3,6,8,35,36,48,49,50] [st 0 (PR (mS L) (Aq6 .i64 (show(i:Int) < ((R.length:Nat):Int) by omega))),st 1 (PR (mS L) (idx_accm (z:=4) (f:=Tk.pv) i ht)),st 5 (QR (mS L) (lk_0 hn)),st 1 (en_0 (R:=runA) hn hm),st 1 (es_0 (R:=runA) L t),st 0 (PR (mS (L++[t])) (Aq4 i 1 l (by decide)))] hl
theorem l3ix{s:List UInt8}{T:Tr}{ts:List Tk}{L:List Tk}{c j i:Nat}{R:List Tk}(hi:¬i<R.length):LM a3 1 [(0,some (.str s)),(3,some (.vptr T.pv)),(6,some (.slice false 4 (ts.map Tk.pv))),(8,some (.mref 0)),(35,some (N c)),(36,some (N j)),(48,some (accD 4 (R.map Tk.pv))),(49,some (N R.length)),(50,some (N i))] (mS L) (.exit 2) [(0,some (.str s)),(3,some (.vptr T.pv)),(6,some (.slice false 4 (ts.map Tk.pv))),(8,some (.mref 0)),(35,some (N c)),(36,some (N j))] (mS L):=
 ruleXR [0,3,6,8,35,36] [st 0 (PR (mS L) (AqJ .i64 (show ¬(i:Int) < ((R.length:Nat):Int) by omega)))]
theorem l3tn{s:List UInt8}{T:Tr}{ts:List Tk}{L:List Tk}{i:Nat}{t:Tk}(hi:i<ts.length)(ht:ts[i]?=some t)(hn:t∈L)(l:i<2000000000){e:AExit}{ff1:FF}{σ1:Sto}(hl:LM a3 2 [(0,some (.str s)),(3,some (.vptr T.pv)),(6,some (.slice false 4 (ts.map Tk.pv))),(8,some (.mref 0)),(62,some (.slice false 4 (ts.map Tk.pv))),(63,some (N ts.length)),(64,some (N (i+1)))] (mS L) e ff1 σ1):LM a3 2 [(0,some (.str s)),(3,some (.vptr T.pv)),(6,some (.slice false 4 (ts.map Tk.pv))),(8,some (.mref 0)),(62,some (.slice false 4 (ts.map Tk.pv))),(63,some (N ts.length)),(64,some (N i))] (mS L) e ff1 σ1:=
 ruleNR [0,3,6,8,62,63,64] [st 0 (PR (mS L) (Aq6 .i64 (show(i:Int) < ((ts.length:Nat):Int) by omega))),st 1 (PR (mS L) (AjM (o:=false) (s:=4) i ht)),st 5 (QR (mS L) (lk_1 hn)),st 2 (PR (mS L) (Aq4 i 1 l (by decide)))] hl
theorem l3tx{s:List UInt8}{T:Tr}{ts:List Tk}{L:List Tk}{i:Nat}(hi:¬i<ts.length):LM a3 2 [(0,some (.str s)),(3,some (.vptr T.pv)),(6,some (.slice false 4 (ts.map Tk.pv))),(8,some (.mref 0)),(62,some (.slice false 4 (ts.map Tk.pv))),(63,some (N ts.length)),(64,some (N i))] (mS L) (.exit 4) [(0,some (.str s)),(3,some (.vptr T.pv)),(6,some (.slice false 4 (ts.map Tk.pv))),(8,some (.mref 0))] (mS L):=
 ruleXR [0,3,6,8] [st 0 (PR (mS L) (AqJ .i64 (show ¬(i:Int) < ((ts.length:Nat):Int) by omega)))]
end Go.Abs.Z

namespace Go.Abs.Z
set_option linter.unusedVariables false
open Go.Proofs Go.RowKit
theorem small_tok{s:List UInt8}(_hs:s.length≤4096):(toksT s).length≤s.length+1∧(lexs s).length≤s.length+1:=by
 have hsc:(scanT s).length≤s.length+1:=AjS (s.length+1) s 0;exact⟨Nat.le_trans (List.length_filter_le _ _) hsc,Nat.le_trans (AXL s _) hsc⟩
theorem AwR{ls:List Tk}(ks:List AT):ks.isEmpty=true→trPs ls ks=[]:=by
 intro h;have:=List.isEmpty_iff.1 h;subst this;rfl
mutual
theorem trP_wf{ls:List Tk}:∀x:AT,(trP ls x).wf
 |.mk kd tx f k b ks=>⟨fun h=>AwR ks h,trPs_wf ks⟩
theorem trPs_wf{ls:List Tk}:∀xs:List AT,Tr.wfs (trPs ls xs)
 |[]=>trivial
 |x::xs=>⟨trP_wf x,trPs_wf xs⟩
end
theorem K5{s:List UInt8}{ls:List Tk}{m k:Nat}(H:Toks s ls m)(h:k≤m)(h5:(wAt s ls k).1=5):k=m:=by
 rcases Nat.lt_or_ge k m with h' | h'
 ·obtain⟨t,ht⟩:=H.at h;have:=H.kd k t ht h';rw[AXU ht] at h5
  simp only at h5
  omega
 ·omega
theorem wok_toks{s:List UInt8}{ls:List Tk}{m:Nat}(H:Toks s ls m):Wok (wAt s ls) m:=by
 refine⟨H.end',fun k hk h5=>?_⟩
 have:=K5 H hk h5;subst this;rw[H.end']
theorem runs(s:List UInt8)(hs:s.length≤4096)(x:NT)(hx:okNT x)(hb:x≠.br):∃v k D,runN (wAt s (toksT s)) 100000 x 0 []=some (v,k,D):=by
 have H:=AQ8 s (by omega)
 obtain⟨l1,_⟩:=small_tok hs
 have hr:rk x≤100:=by
  cases x with
  |ex L=>rcases hx with rfl | rfl | rfl | rfl | rfl | rfl<;>decide
  |lp L f y=>rcases hx with rfl | rfl | rfl | rfl<;>simp[rk]
  |_=>simp[rk]
 obtain⟨⟨v,k,D⟩,h⟩:=run_all (wok_toks H) 100000 x 0 hx (fun e=>absurd e hb) (by unfold mu;omega) (Nat.zero_le _) [] ⟨List.Pairwise.nil,fun d h=>by cases h⟩
 exact⟨v,k,D,h⟩
theorem runs_ok(s:List UInt8)(hs:s.length≤4096){x:NT}{v:Rs}{k:Nat}{D:List AD}(h:runN (wAt s (toksT s)) 100000 x 0 []=some (v,k,D)):k≤(toksT s).length - 1∧Dok k D∧EI 100000 x 0 v k:=by
 have H:=AQ8 s (by omega)
 obtain⟨c1,c2⟩:=ok_in (w5 H) 100000 (by omega)
 have hD0:Dok 0 []:=⟨List.Pairwise.nil,fun d h=>by cases h⟩
 obtain⟨o1,o2,o3⟩:=c1 _ _ _ _ h (Nat.zero_le _) hD0;exact⟨o2,o3,c2 _ _ _ _ _ _ h (Nat.zero_le _) hD0⟩
end Go.Abs.Z
