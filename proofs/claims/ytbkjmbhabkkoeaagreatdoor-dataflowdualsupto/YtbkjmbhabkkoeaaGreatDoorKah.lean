/- A part of the proof: A33 T0 T3a T1. -/
import Derived.Test.YtbkjmbhabkkoeaaGreatDoorKag
import Derived.Test.YtbkjmbhabkkoeaaGreatDoorProg

set_option linter.unusedVariables false
set_option linter.unusedSimpArgs false
namespace Go.Abs
open Go.RowKit
abbrev FF:=List (Nat×Option PV)
noncomputable section
abbrev RFS:=Option (FF×Sto)
abbrev RX:=Option (Bt×FF×Sto)
def Dm(ff:FF)(t:Nat):Option PV:=List.rec (motive:=fun _=>Option PV) none (fun p _ ih=>cond (Nat.beq p.1 t) p.2 ih) ff
def DT(ff:FF)(az:List Ct):Option (List PV):=
 List.rec (motive:=fun _=>Option (List PV)) (some []) (fun a _ ih=>Ct.rec (motive:=fun _=>Option (List PV))
  (fun t=>Option.rec (motive:=fun _=>Option (List PV)) none (fun v=>Option.rec (motive:=fun _=>Option (List PV)) none (fun vs=>some (v::vs)) ih) (Dm ff t))
  (fun v=>Option.rec (motive:=fun _=>Option (List PV)) none (fun vs=>some (v::vs)) ih) a) az
def K6(ts:List Nat):List (Option PV)→FF→FF:=
 List.rec (motive:=fun _=>List (Option PV)→FF→FF) (fun _ ff=>ff) (fun t _ ih vs ff=>List.rec (motive:=fun _=>FF) ff (fun v vs _=>ih vs ((t,v)::ff)) vs) ts
def Ex(v:Option PV)(b:Bool):Option Bool:=
 match v with
  |some (.bool c)=>some (c==b)
  |some (.tuple [])=>some false
  |_=>none
def Ja(pur:FuncId→Bool)(call:Caller)(o:AOp)(ff:FF)(σ:Sto):RFS:=
 Option.rec (motive:=fun _=>RFS) none (fun vs=>
  Option.rec (motive:=fun _=>RFS) none (fun r => 
   cond (Nat.beq r.1.length (o.dst.toList.length+o.ex.length)) (some (K6 o.wr (r.1++o.clr.map fun _=>none) ff,r.2))
    (cond (o.dst.isNone&&o.ex.isEmpty&&o.clr.isEmpty) (some (ff,r.2)) none)) (sem pur call o.k vs σ)) (DT ff o.args)
def F5(pur:FuncId→Bool)(call:Caller)(o:AOp)(ff:FF)(σ:Sto):RFS:=
 Option.rec (motive:=fun _=>RFS) (Ja pur call o ff σ) (fun g => 
  Option.rec (motive:=fun _=>RFS) none (fun b=>cond b (Ja pur call o ff σ) (cond (o.ex.isEmpty&&o.clr.isEmpty) (some (K6 o.wr [some Iy] ff,σ)) none)) (Ex (Dm ff g.1) g.2)) o.guard
def MI(pur:FuncId→Bool)(call:Caller)(os:List AOp):FF→Sto→RX:=
 List.rec (motive:=fun _=>FF→Sto→RX) (fun ff σ=>some (.normal,ff,σ)) (fun o _ ih ff σ=>
  Option.rec (motive:=fun _=>RX) none (fun r=>ih r.1 r.2) (F5 pur call o ff σ)) os
def trK(pur:FuncId→Bool)(call:Caller)(os:List AOp):FF→Sto→Option (List (FF×Sto)):=
 List.rec (motive:=fun _=>FF→Sto→Option (List (FF×Sto))) (fun ff σ=>some [(ff,σ)]) (fun o _ ih ff σ=>
  Option.rec (motive:=fun _=>Option (List (FF×Sto))) none (fun r=>Option.rec (motive:=fun _=>Option (List (FF×Sto))) none (fun l=>some ((ff,σ)::l)) (ih r.1 r.2)) (F5 pur call o ff σ)) os
def ldK(o:AOp)(ff:FF)(σ:Sto):Option (List (Option PV)):=match o.guard with
 |none=>match o.k,DT ff o.args with
  |.r k,some vs=>BR k vs σ
  |_,_=>none
 |some g=>match Ex (Dm ff g.1) g.2 with
  |some true=>match o.k,DT ff o.args with
   |.r k,some vs=>BR k vs σ
   |_,_=>none
  |some false=>some []
  |none=>none
def Rm(ops:List AOp)(tr:List (FF×Sto))(lo:List (Nat×Nat)):Bool:=lo.all fun p=>match ops[p.2]?,tr[p.2]?,tr[p.1]?,tr[p.1+1]? with
 |some o,some (ff,_),some (_,σ),some (_,σ')=>Oe (ldK o ff σ) (ldK o ff σ')
 |_,_,_,_=>false
def Sv(pur:FuncId→Bool)(call:Caller)(ops:List AOp)(lo:List (Nat×Nat))(ff:FF)(σ:Sto):RX:=
 Option.rec (motive:=fun _=>RX) none (fun tr=>cond (Rm ops tr lo) (Option.rec (motive:=fun _=>RX) none (fun x=>some (.normal,x.1,x.2)) tr.getLast?) none) (trK pur call ops ff σ)
def Fg(e:Bt):Bool:=Bt.rec (motive:=fun _=>Bool) true (fun _=>false) false e
def DD(ff:FF)(keep:List Bool):Nat→FF:=
 List.rec (motive:=fun _=>Nat→FF) (fun _=>[]) (fun b _ ih n=>cond b ((n,Dm ff n)::ih (n+1)) (ih (n+1))) keep
def MQ(keep:List Bool)(body:FF→Sto→RX)(n:Nat):FF→Sto→RX:=
 Nat.rec (motive:=fun _=>FF→Sto→RX) (fun _ _=>none) (fun _ ih ff σ=>
  Option.rec (motive:=fun _=>RX) none (fun r=>cond (Fg r.1) (ih (DD r.2.1 keep 0) r.2.2) (some r)) (body ff σ)) n
def XW(v:Option (List PV))(x y:RX):RX:=match v with
 |some [.bool b]=>cond b x y
 |_=>none
def EI(pur:FuncId→Bool)(call:Caller)(n:Nat)(c:Dc):FF→Sto→RX:=
 Dc.rec (motive:=fun _=>FF→Sto→RX)
  (fun ff σ=>some (.normal,ff,σ))
  (fun ops=>MI pur call ops)
  (fun _ _ iha ihb ff σ=>Option.rec (motive:=fun _=>RX) none (fun r=>cond (Fg r.1) (ihb r.2.1 r.2.2) (some r)) (iha ff σ))
  (fun c _ _ iht ihe ff σ=>XW (DT ff [c]) (iht ff σ) (ihe ff σ))
  (fun id _ ih ff σ=>Option.rec (motive:=fun _=>RX) none (fun r=>Bt.rec (motive:=fun _=>RX) (some r) (fun i=>cond (Nat.beq i id) (some (.normal,r.2)) (some r)) (some r) r.1) (ih ff σ))
  (fun keep _ ih ff σ=>MQ keep ih n (DD ff keep 0) σ)
  (fun id ff σ=>some (.exit id,ff,σ))
  (fun ff σ=>some (.ret,ff,σ))
  (fun ops lo=>Sv pur call ops lo) c
def Ji(args:List PV):Nat→FF:=List.rec (motive:=fun _=>Nat→FF) (fun _=>[]) (fun a _ ih n=>(n,some a)::ih (n+1)) args
def Gt(ff:FF)(rs:List (Nat×Option Nat)):Option (List PV):=
 List.rec (motive:=fun _=>Option (List PV)) (some []) (fun r _ ih=>match Dm ff r.1,ih with
  |some v,some vs=>if Lg v r.2 then some (v.Ag::vs) else(Lh v r.2).map fun r=>r::vs
  |_,_=>none) rs
def GD(pur:FuncId→Bool)(call:Caller)(n:Nat)(fn:Cy)(args:List PV)(σ:Sto):Option (PV×Sto):=
 cond (Nat.beq args.length fn.nargs&&Nat.ble args.length fn.ntmps)
  (Option.rec (motive:=fun _=>Option (PV×Sto)) none (fun r=>Bt.rec (motive:=fun _=>Option (PV×Sto)) ((Gt r.2.1 fn.results).bind fun vs=>(Fu vs).map fun x=>(x,r.2.2)) (fun _=>none)
   ((Gt r.2.1 fn.results).bind fun vs=>(Fu vs).map fun x=>(x,r.2.2)) r.1) (EI pur call n fn.code (Ji args 0) σ)) none
def Q6(N:Nat)(o:AOp):Bool:=o.wr.all fun t=>Nat.blt t N
def Ei(N:Nat):Dc→Bool
 |.region ops=>ops.all (Q6 N)
 |.draw ops _=>ops.all (Q6 N)
 |.seq a b=>Ei N a&&Ei N b
 |.cond _ t e=>Ei N t&&Ei N e
 |.block _ c=>Ei N c
 |.loop keep c=>Nat.beq keep.length N&&Ei N c
 |_=>true
abbrev GM:=Caller→List PV→Sto→Option (PV×Sto)
def LW(pur:FuncId→Bool)(prim:FuncId→Option GM)(tab:FuncId→Option Cy)(n:Nat):Caller:=
 Nat.rec (motive:=fun _=>Caller) (fun _ _ _=>none) (fun n ih f args σ=>Option.rec (motive:=fun _=>Option (PV×Sto))
  (Option.rec (motive:=fun _=>Option (PV×Sto)) none (fun fn=>GD pur ih n fn args σ) (tab f)) (fun g=>g ih args σ) (prim f)) n
end
structure Rel(N:Nat)(ff:FF)(A:Frm):Prop where
 len:A.length=N
 get:∀t v,Dm ff t=some v→A.get t=some v
section
variable{P:Program}{pur:FuncId→Bool}{call:Caller}{N:Nat}{ff ff':FF}{A:Frm}{σ σ':Sto}
theorem FV(p:Nat×Option PV)(ff:FF)(t:Nat):Dm (p::ff) t=cond (Nat.beq p.1 t) p.2 (Dm ff t):=rfl
theorem I5(h:Rel N ff A):∀(az:List Ct) (vs:List PV),DT ff az=some vs→BJ A az=some vs
 |[],vs,he=>by cases he;rfl
 |.slot t::az,vs,he=>by
  have he':(Option.rec (motive:=fun _=>Option (List PV)) none (fun v=>Option.rec (motive:=fun _=>Option (List PV)) none (fun vs=>some (v::vs)) (DT ff az)) (Dm ff t))=some vs:=he
  cases hg:Dm ff t with
  |none=>rw[hg] at he';cases he'
  |some v=>
   rw[hg] at he';cases hr:DT ff az with
   |none=>rw[hr] at he';cases he'
   |some ws=>
    rw[hr] at he';cases he';simp only[BJ,h.get t v hg,I5 h az ws hr]
 |.val v::az,vs,he=>by
  have he':(Option.rec (motive:=fun _=>Option (List PV)) none (fun vs=>some (v::vs)) (DT ff az))=some vs:=he
  cases hr:DT ff az with
  |none=>rw[hr] at he';cases he'
  |some ws=>
   rw[hr] at he';cases he';simp only[BJ,I5 h az ws hr,Ay]
theorem NB:∀(ts:List Nat) (vs:List (Option PV)) {ff:FF} {A:Frm},Rel N ff A→(∀t∈ts,t<N)→Rel N (K6 ts vs ff) (CV A ts vs)
 |[],vs,ff,A,h,_=>by cases vs<;>exact h
 |t::ts,[],ff,A,h,_=>h
 |t::ts,v::vs,ff,A,h,ht=>by
  refine NB ts vs (ff:=(t,v)::ff) (A:=A.set t v) ⟨by rw[Bo];exact h.len,fun s x hx=>?_⟩ (fun s hs=>ht s (Bw _ hs))
  rw[FV] at hx;rw[C8];cases hb:Nat.beq t s with
  |true=>
   rw[hb] at hx;have:t=s:=AU hb;subst this;rw[if_pos ⟨rfl,by rw[h.len];exact ht t (BG ..)⟩]
   exact hx
  |false=>
   rw[hb] at hx;have:t≠s:=Du hb;rw[if_neg (fun e=>this e.1.symm)]
   exact h.get s x hx
theorem TP{o:AOp}(h:Q6 N o=true):∀t∈o.wr,t<N:=by
 intro t ht;have:=Ao.1 h t ht;exact DK this
theorem Wp{o:AOp}(h:Rel N ff A)(ho:Q6 N o=true)(he:Ja pur call o ff σ=some (ff',σ')):∃A',BV pur call o A σ=some (A',σ')∧Rel N ff' A':=by
 unfold Ja at he;cases hv:DT ff o.args with
 |none=>rw[hv] at he;cases he
 |some vs=>
  rw[hv] at he;dsimp only at he;cases hs:sem pur call o.k vs σ with
  |none=>rw[hs] at he;cases he
  |some r=>
   obtain⟨rs,σ1⟩:=r;rw[hs] at he;dsimp only at he;unfold BV;rw[I5 h _ _ hv];dsimp only;rw[hs];dsimp only;cases hb:Nat.beq rs.length (o.dst.toList.length+o.ex.length) with
   |true=>
    rw[hb] at he;cases he;rw[if_pos (AU hb)];exact⟨_,rfl,NB _ _ h (TP ho)⟩
   |false=>
    rw[hb] at he;rw[if_neg (Du hb)];cases hc:(o.dst.isNone&&o.ex.isEmpty&&o.clr.isEmpty) with
    |true=>
     rw[hc] at he;cases he;simp only[Ak,D9] at hc;rw[if_pos ⟨hc.1.1,hc.1.2,hc.2⟩];exact⟨A,rfl,h⟩
    |false=>rw[hc] at he;cases he
theorem Ui{o:AOp}(h:Rel N ff A)(ho:Q6 N o=true)(he:F5 pur call o ff σ=some (ff',σ')):∃A',FU pur call o A σ=some (A',σ')∧Rel N ff' A':=by
 unfold F5 at he;unfold FU;cases hg:o.guard with
 |none=>
  rw[hg] at he;exact Wp h ho he
 |some g=>
  obtain⟨t,b⟩:=g;rw[hg] at he;dsimp only at he
  have hw:∀x,Ex (Dm ff t) b=some x→FK A (some (t,b))=some x:=by
   intro x hx;simp only[FK];cases hgt:Dm ff t with
   |none=>rw[hgt] at hx;simp[Ex] at hx
   |some v=>
    rw[hgt] at hx;rw[h.get t v hgt];unfold Ex at hx
    split at hx
    ·rename_i e;cases e;exact hx
    ·rename_i e;cases e;exact hx
    ·cases hx
  cases hwk:Ex (Dm ff t) b with
  |none=>rw[hwk] at he;cases he
  |some x=>
   rw[hwk] at he;rw[hw x hwk];cases x with
   |true=>exact Wp h ho he
   |false=>
    have he':cond (o.ex.isEmpty&&o.clr.isEmpty) (some (K6 o.wr [some Iy] ff,σ)) none=some (ff',σ'):=he;cases hc:(o.ex.isEmpty&&o.clr.isEmpty) with
    |true=>
     rw[hc] at he';cases he';simp only[Ak,D9] at hc;dsimp only;rw[if_pos hc];exact⟨_,rfl,NB _ _ h (TP ho)⟩
    |false=>rw[hc] at he';cases he'
theorem Q3:∀(os:List AOp) {ff:FF} {A:Frm} {σ:Sto} {e:Bt} {ff':FF} {σ':Sto},Rel N ff A→os.all (Q6 N)=true→MI pur call os ff σ=some (e,ff',σ')→
  e=.normal∧∃A',Gn pur call os A σ=some (A',σ')∧Rel N ff' A'
 |[],ff,A,σ,e,ff',σ',h,_,he=>by cases he;exact⟨rfl,A,rfl,h⟩
 |o::os,ff,A,σ,e,ff',σ',h,ho,he=>by
  simp only[Bi,Ak] at ho;have he':Option.rec (motive:=fun _=>RX) none (fun r=>MI pur call os r.1 r.2) (F5 pur call o ff σ)=some (e,ff',σ'):=he
  cases hx:F5 pur call o ff σ with
  |none=>rw[hx] at he';cases he'
  |some r=>
   obtain⟨ff1,σ1⟩:=r;rw[hx] at he';obtain⟨A1,h1,h2⟩:=Ui h ho.1 hx;obtain⟨e1,A',h3,h4⟩:=Q3 os h2 ho.2 he';refine⟨e1,A',?_,h4⟩
   simp only[Gn,h1,h3]
theorem Zq:∀(os:List AOp) {ff:FF} {A:Frm} {σ:Sto} {tr:List (FF×Sto)},Rel N ff A→os.all (Q6 N)=true→trK pur call os ff σ=some tr→
  ∃tr',Kw pur call os A σ=some tr'∧tr'.length=tr.length∧∀(i:Nat) (x:FF×Sto),tr[i]?=some x→∃y,tr'[i]?=some y∧Rel N x.1 y.1∧y.2=x.2
 |[],ff,A,σ,tr,h,_,he=>by
  cases he;refine⟨_,rfl,rfl,fun i x hx=>?_⟩
  cases i with
  |zero=>simp at hx;subst hx;exact⟨_,rfl,h,rfl⟩
  |succ i=>simp at hx
 |o::os,ff,A,σ,tr,h,ho,he=>by
  simp only[Bi,Ak] at ho;have he':Option.rec (motive:=fun _=>Option (List (FF×Sto))) none (fun r=>Option.rec (motive:=fun _=>Option (List (FF×Sto))) none (fun l=>some ((ff,σ)::l)) (trK pur call os r.1 r.2)) (F5 pur call o ff σ)=some tr:=he
  cases hx:F5 pur call o ff σ with
  |none=>rw[hx] at he';cases he'
  |some r=>
   obtain⟨ff1,σ1⟩:=r;rw[hx] at he';dsimp only at he';cases hy:trK pur call os ff1 σ1 with
   |none=>rw[hy] at he';cases he'
   |some l=>
    rw[hy] at he';cases he';obtain⟨A1,h1,h2⟩:=Ui h ho.1 hx;obtain⟨tr',h3,h4,h5⟩:=Zq os h2 ho.2 hy;refine⟨(A,σ)::tr',by simp only[Kw,h1,h3,Ay],by simp[h4],fun i x hx=>?_⟩
    cases i with
    |zero=>simp at hx;subst hx;exact⟨_,rfl,h,rfl⟩
    |succ i=>exact h5 i x (by simpa using hx)
theorem au{o:AOp}{l:List (Option PV)}(h:Rel N ff A)(he:ldK o ff σ=some l):JB o A σ=some l:=by
 have key:(match o.k,DT ff o.args with | .r k,some vs=>BR k vs σ | _,_=>none)=some l→(match o.k,BJ A o.args with | .r k,some vs=>BR k vs σ | _,_=>none)=some l:=by
  intro hh
  split at hh
  ·rename_i k vs hk hv;rw[hk,I5 h _ _ hv];exact hh
  ·cases hh
 unfold ldK at he;unfold JB;cases hg:o.guard with
 |none=>rw[hg] at he;exact key he
 |some g=>
  obtain⟨t,b⟩:=g;rw[hg] at he;dsimp only at he
  have hw:∀x,Ex (Dm ff t) b=some x→FK A (some (t,b))=some x:=by
   intro x hx;simp only[FK];cases hgt:Dm ff t with
   |none=>rw[hgt] at hx;simp[Ex] at hx
   |some v=>
    rw[hgt] at hx;rw[h.get t v hgt];unfold Ex at hx
    split at hx
    ·rename_i e;cases e;exact hx
    ·rename_i e;cases e;exact hx
    ·cases hx
  split at he
  ·rename_i hx;rw[hw _ hx];exact key he
  ·rename_i hx;rw[hw _ hx];exact he
  ·cases he
theorem Zi{l l':Option (List (Option PV))}(h:Oe l l'=true):∃x y,l=some x∧l'=some y:=by
 unfold Oe at h
 split at h
 ·exact⟨_,_,rfl,rfl⟩
 ·cases h
theorem dE{ops:List AOp}{lo:List (Nat×Nat)}{e:Bt}(h:Rel N ff A)(ho:ops.all (Q6 N)=true)(he:Sv pur call ops lo ff σ=some (e,ff',σ')):
  e=.normal∧∃A',Gw pur call ops lo A σ=some (A',σ')∧Rel N ff' A':=by
 unfold Sv at he;cases htr:trK pur call ops ff σ with
 |none=>rw[htr] at he;cases he
 |some tr=>
  rw[htr] at he;dsimp only at he;cases hl:Rm ops tr lo with
  |false=>rw[hl] at he;cases he
  |true=>
   rw[hl] at he;have he:Option.rec (motive:=fun _=>RX) none (fun x=>some (.normal,x.1,x.2)) tr.getLast?=some (e,ff',σ'):=he
   cases hlast:tr.getLast? with
   |none=>rw[hlast] at he;cases he
   |some x=>
    rw[hlast] at he;cases he;obtain⟨tr',h1,h2,h3⟩:=Zq ops h ho htr;have hlast':=hlast;rw[DJ] at hlast';obtain⟨y,hy1,hy2,hy3⟩:=h3 _ _ hlast';refine⟨rfl,y.1,?_,hy2⟩
    unfold Gw;rw[h1]
    have hlo:Vh ops tr' lo=true:=by
     refine Ao.2 fun p hp=>?_
     have:=Ao.1 hl p hp
     split at this
     ·rename_i o f1 s1 f2 s2 f3 s3 ho q1 q2 q3;obtain⟨z1,w1,r1,_⟩:=h3 _ _ q1;obtain⟨z2,w2,_,k2⟩:=h3 _ _ q2;obtain⟨z3,w3,_,k3⟩:=h3 _ _ q3;obtain⟨x1,x2,e1,e2⟩:=Zi this;rw[ho,w1,w2,w3];show Oe (JB o z1.1 z2.2) (JB o z1.1 z3.2)=true;rw[k2,k3,au r1 e1,au r1 e2];rw[e1,e2] at this;exact this
     ·cases this
    show(if Vh ops tr' lo=true then tr'.getLast? else none)=_
    rw[if_pos hlo,DJ,h2,hy1,←hy3]
theorem Ub(ff:FF):∀(keep:List Bool) (n t:Nat) (v:PV),Dm (DD ff keep n) t=some v→Dm ff t=some v∧n≤t∧keep[t - n]?=some true
 |[],n,t,v,h=>by cases h
 |b::keep,n,t,v,h=>by
  have h':Dm (cond b ((n,Dm ff n)::DD ff keep (n+1)) (DD ff keep (n+1))) t=some v:=h
  have rec':Dm (DD ff keep (n+1)) t=some v→Dm ff t=some v∧n≤t∧(b::keep)[t - n]?=some true:=by
   intro h;obtain⟨h1,h2,h3⟩:=Ub ff keep (n+1) t v h;refine⟨h1,by omega,?_⟩
   rw[show t - n=(t - (n+1))+1 from by omega,List.getElem?_cons_succ];exact h3
  cases b with
  |false=>exact rec' h'
  |true=>
   have h'':cond (Nat.beq n t) (Dm ff n) (Dm (DD ff keep (n+1)) t)=some v:=h';cases hb:Nat.beq n t with
   |true=>
    rw[hb] at h'';have:n=t:=AU hb;subst this;exact⟨h'',Be _,by simp⟩
   |false=>rw[hb] at h'';exact rec' h''
theorem Xc{keep:List Bool}(hk:keep.length=N)(h:Rel N ff A):Rel N (DD ff keep 0) (mask keep A):=by
 refine⟨by rw[Il (by rw[hk,h.len])];exact h.len,fun t v hv=>?_⟩
 obtain⟨h1,_,h3⟩:=Ub ff keep 0 t v hv;have hg:=h.get t v h1;rw[Nat.sub_zero] at h3;unfold Frm.get at hg ⊢;unfold mask;rw[Cf,h3];cases ha:A[t]? with
 |none=>rw[ha] at hg;cases hg
 |some x=>rw[ha] at hg;simpa using hg
theorem TY{keep:List Bool}(hk:keep.length=N){bodyK:FF→Sto→RX}{body:Frm→Sto→Option (Bt×Frm×Sto)}
  (hb:∀ff A σ e ff' σ',Rel N ff A→bodyK ff σ=some (e,ff',σ')→∃A',body A σ=some (e,A',σ')∧Rel N ff' A') :
  ∀(n:Nat) (ff:FF) (A:Frm) (σ:Sto) (e:Bt) (ff':FF) (σ':Sto),Rel N ff A→MQ keep bodyK n ff σ=some (e,ff',σ')→∃A',iter keep body n A σ=some (e,A',σ')∧Rel N ff' A'
 |0,ff,A,σ,e,ff',σ',_,h=>by cases h
 |n+1,ff,A,σ,e,ff',σ',hr,h=>by
  have h':Option.rec (motive:=fun _=>RX) none (fun r=>cond (Fg r.1) (MQ keep bodyK n (DD r.2.1 keep 0) r.2.2) (some r)) (bodyK ff σ)=some (e,ff',σ'):=h
  cases hx:bodyK ff σ with
  |none=>rw[hx] at h';cases h'
  |some r=>
   obtain⟨e1,ff1,σ1⟩:=r;rw[hx] at h';obtain⟨A1,h1,h2⟩:=hb _ _ _ _ _ _ hr hx;simp only[iter,h1];cases e1 with
   |normal=>exact TY hk hb n _ _ _ _ _ _ (Xc hk h2) h'
   |exit i=>cases h';exact⟨A1,rfl,h2⟩
   |ret=>cases h';exact⟨A1,rfl,h2⟩
theorem O3{n:Nat}:∀(c:Dc) (ff:FF) (A:Frm) (σ:Sto) (e:Bt) (ff':FF) (σ':Sto),Ei N c=true→Rel N ff A→EI pur call n c ff σ=some (e,ff',σ')→
  ∃A',F4 pur call n c A σ=some (e,A',σ')∧Rel N ff' A':=by
 intro c
 induction c with
 |skip=>intro ff A σ e ff' σ' _ hr h;cases h;exact⟨A,rfl,hr⟩
 |region ops=>
  intro ff A σ e ff' σ' ho hr h;obtain⟨rfl,A',h1,h2⟩:=Q3 ops hr ho h;exact⟨A',by simp only[F4,h1,Ay],h2⟩
 |draw ops lo=>
  intro ff A σ e ff' σ' ho hr h;obtain⟨rfl,A',h1,h2⟩:=dE hr ho h;exact⟨A',by simp only[F4,h1,Ay],h2⟩
 |seq x y ihx ihy=>
  intro ff A σ e ff' σ' ho hr h;simp only[Ei,Ak] at ho;have h':Option.rec (motive:=fun _=>RX) none (fun r=>cond (Fg r.1) (EI pur call n y r.2.1 r.2.2) (some r)) (EI pur call n x ff σ)=some (e,ff',σ'):=h
  cases hx:EI pur call n x ff σ with
  |none=>rw[hx] at h';cases h'
  |some r=>
   obtain⟨e1,ff1,σ1⟩:=r;rw[hx] at h';obtain⟨A1,h1,h2⟩:=ihx _ _ _ _ _ _ ho.1 hr hx;simp only[F4,h1];cases e1 with
   |normal=>exact ihy _ _ _ _ _ _ ho.2 h2 h'
   |exit i=>cases h';exact⟨A1,rfl,h2⟩
   |ret=>cases h';exact⟨A1,rfl,h2⟩
 |cond c t e iht ihe=>
  intro ff A σ e ff' σ' ho hr h;simp only[Ei,Ak] at ho;have h':XW (DT ff [c]) (EI pur call n t ff σ) (EI pur call n _ ff σ)=some (e,ff',σ'):=h;unfold XW at h'
  split at h'
  ·rename_i b hb;have:=I5 hr _ _ hb;simp only[F4,this];cases b with
   |true=>exact iht _ _ _ _ _ _ ho.1 hr h'
   |false=>exact ihe _ _ _ _ _ _ ho.2 hr h'
  ·cases h'
 |block id c ih=>
  intro ff A σ e ff' σ' ho hr h;have h':Option.rec (motive:=fun _=>RX) none (fun r=>Bt.rec (motive:=fun _=>RX) (some r) (fun i=>cond (Nat.beq i id) (some (.normal,r.2)) (some r)) (some r) r.1) (EI pur call n c ff σ)=some (e,ff',σ'):=h
  cases hx:EI pur call n c ff σ with
  |none=>rw[hx] at h';cases h'
  |some r=>
   obtain⟨e1,ff1,σ1⟩:=r;rw[hx] at h';obtain⟨A1,h1,h2⟩:=ih _ _ _ _ _ _ ho hr hx;simp only[F4,h1];cases e1 with
   |normal=>cases h';exact⟨A1,rfl,h2⟩
   |exit i=>
    have h'':cond (Nat.beq i id) (some (Bt.normal,ff1,σ1)) (some (.exit i,ff1,σ1))=some (e,ff',σ'):=h';cases hb:Nat.beq i id with
    |true=>
     rw[hb] at h'';cases h'';dsimp only;rw[if_pos (AU hb)];exact⟨A1,rfl,h2⟩
    |false=>
     rw[hb] at h'';cases h'';dsimp only;rw[if_neg (Du hb)];exact⟨A1,rfl,h2⟩
   |ret=>cases h';exact⟨A1,rfl,h2⟩
 |loop keep c ih=>
  intro ff A σ e ff' σ' ho hr h;simp only[Ei,Ak] at ho;have hk:keep.length=N:=AU ho.1;simp only[F4];rw[if_pos (by rw[hk,hr.len])]
  exact TY hk (fun ff A σ e ff' σ' hr h=>ih ff A σ e ff' σ' ho.2 hr h) n _ _ _ _ _ _ (Xc hk hr) h
 |exit id=>intro ff A σ e ff' σ' _ hr h;cases h;exact⟨A,rfl,hr⟩
 |ret=>intro ff A σ e ff' σ' _ hr h;cases h;exact⟨A,rfl,hr⟩
theorem OV:∀(args:List PV) (n t:Nat) (v:PV),Dm (Ji args n) t=some v→n≤t∧args[t - n]?=some v
 |[],n,t,v,h=>by cases h
 |a::args,n,t,v,h=>by
  have h':cond (Nat.beq n t) (some a) (Dm (Ji args (n+1)) t)=some v:=h;cases hb:Nat.beq n t with
  |true=>
   rw[hb] at h';have:n=t:=AU hb;subst this;exact⟨Be _,by simpa using h'⟩
  |false=>
   rw[hb] at h';obtain⟨h1,h2⟩:=OV args (n+1) t v h';refine⟨by omega,?_⟩
   rw[show t - n=(t - (n+1))+1 from by omega,List.getElem?_cons_succ];exact h2
theorem QO(h:Rel N ff A):∀(rs:List (Nat×Option Nat)) (vs:List PV),Gt ff rs=some vs→Fz A rs=some vs
 |[],vs,hr=>by cases hr;rfl
 |(t,n)::rs,vs,hr=>by
  have hr':(match Dm ff t,Gt ff rs with | some v,some vs=>if Lg v n then some (v.Ag::vs) else(Lh v n).map fun r=>r::vs | _,_=>none)=some vs:=hr
  split at hr'
  ·rename_i v ws hg hw;simp only[Fz,h.get t v hg,QO h rs ws hw];exact hr'
  ·cases hr'
theorem Yo{n:Nat}{fn:Cy}{args:List PV}{r:PV×Sto}(ho:Ei (fn.ntmps+fn.extra) fn.code=true)(h:GD pur call n fn args σ=some r):ZM pur call n fn args σ=some r:=by
 unfold GD at h;cases hb:(Nat.beq args.length fn.nargs&&Nat.ble args.length fn.ntmps) with
 |false=>rw[hb] at h;cases h
 |true=>
  rw[hb] at h;simp only[Ak] at hb;have h1:args.length=fn.nargs:=AU hb.1;have h2:args.length≤fn.ntmps:=DK hb.2;unfold ZM;rw[if_pos ⟨h1,h2⟩]
  have hrel:Rel (fn.ntmps+fn.extra) (Ji args 0) (args.map some++List.replicate (fn.ntmps+fn.extra - args.length) none):=by
   refine⟨by simp;omega,fun t v hv=>?_⟩
   obtain⟨_,hv⟩:=OV args 0 t v hv;rw[Nat.sub_zero] at hv;have hlt:=(Ab.1 hv).1;unfold Frm.get;rw[Ae (by simpa using hlt),Af,hv];rfl
  cases hx:EI pur call n fn.code (Ji args 0) σ with
  |none=>rw[hx] at h;cases h
  |some x=>
   obtain⟨e,ff',σ'⟩:=x;rw[hx] at h;obtain⟨A',h3,h4⟩:=O3 fn.code _ _ _ _ _ _ ho hrel hx;rw[h3]
   have fin:((Gt ff' fn.results).bind fun vs=>(Fu vs).map fun x=>(x,σ'))=some r→((Fz A' fn.results).bind fun vs=>(Fu vs).map fun x=>(x,σ'))=some r:=by
    intro hh;obtain⟨vs,hv,hp⟩:=AO.1 hh;rw[QO h4 _ _ hv];exact hp
   cases e with
   |normal=>exact fin h
   |exit i=>cases h
   |ret=>exact fin h
def sD(P:Program)(pur:FuncId→Bool)(tab:FuncId→Option Cy):Prop:=
 ∀f af,tab f=some af→∃fn fi,P.funcs[f]?=some fn∧(fn.name == "runtime.NumGoroutine")=false∧Gf P pur fi fn=some af∧Ei (af.ntmps+af.extra) af.code=true
def FQ(P:Program)(f:FuncId)(g:GM):Prop:=
 ∀call,EW P call→∀args σ r σ',(∀p∈args,p.Ag=p)→g call args σ=some (r,σ')→Jp P f args σ r σ'
theorem Ha{prim:FuncId→Option GM}{tab:FuncId→Option Cy}(hmo:P.follows .mixedOrders=true)(htab:sD P pur tab)(hprim:∀f g,prim f=some g→FQ P f g):∀n,EW P (LW pur prim tab n)
 |0=>by intro f args σ r σ' _ h;cases h
 |n+1=>by
  intro f args σ r σ' hown h;have hS:=Ha hmo htab hprim n;have h':Option.rec (motive:=fun _=>Option (PV×Sto)) (Option.rec (motive:=fun _=>Option (PV×Sto)) none (fun fn=>GD pur (LW pur prim tab n) n fn args σ) (tab f)) (fun g=>g (LW pur prim tab n) args σ) (prim f)=some (r,σ'):=h
  cases hp:prim f with
  |some g=>
   rw[hp] at h';exact hprim f g hp _ hS args σ r σ' hown h'
  |none=>
   rw[hp] at h';dsimp only at h';cases ht:tab f with
   |none=>rw[ht] at h';cases h'
   |some af=>
    rw[ht] at h';obtain⟨fn,fi,h1,h2,h3,h4⟩:=htab f af ht;exact lH hmo h1 h2 h3 hS hown (Yo h4 h')
end
end Go.Abs

namespace Go.Abs.Z
abbrev pL:SK:=.plain
abbrev iM:SK:=.imm
def kS:Nat→Nat→List SK
 |0,_=>[]
 |l+1,n=>(match n % 4 with | 0=>.plain | 1=>.imm | 2=>.box | _=>.obj)::kS l (n / 4)
def bS:Nat→Nat→List Bool
 |0,_=>[]
 |l+1,n=>Nat.beq (n % 2) 1::bS l (n / 2)
def fI(l k m nt:Nat)(md:List (Nat×Nat×Nat))(al:List (Nat×Nat):=[])(ps:List (Nat×Nat×Nat):=[])(bt:Option (Nat×Nat):=none):FI:={ kd:=kS l k,al:=al,keep:=bif Nat.beq m 0 then[] else bS nt m,nt:=nt,ps:=ps,bt:=bt,md:=md }
def pur(f:FuncId):Bool:=!([3,4,5,6,7,8,9,10,12,13,14,15,16,17,18,19,20,21,22,23,24,25,26,27,28,29,30,31,32,34,35,38,42,43,44,45,46,47,48,49,50,51,52,53,54,55,57,58,62,63,64,65,66,67,68,69,70,71,72,73,74,76,77,78,81,83,84,85,86,87,88,89,90,93,94,96,97,102,104,106,107,108,109,110,111,112,113,114,115,116,117,118,119,120,121,123,124,126,127,129,130,132,133,134,135,136,137,138,139,140,141,142,144,146,147,148,149,150,155,156,157,158,159,160,161,162,163,164,165,169,170,171,172,174,175,176,177,178,179,180,181,183,184,186,187,188,190,192,193,199,200,201,202,203,204,218,219,220,221,222,223,224,225,226,227,228,230,231,241,242,243,244,245,246,247,252,253,254,256,268,269,270,271,272,273,274,276,280,282,283,284,287,290,293,298,300]:List Nat).contains f
def fi3:=fI 5 768 0 61 []
def fi4:=fI 16 0x400000c0 0xffffe00000e0e0000000000000000000014186 154 [(17,5,1),(12,5,8)]
def fi5:=fI 2 4 0 104 [(1,5,8)]
def fi6:=fI 3 48 0 8 []
def fi7:=fI 25 0x1000000400300 0x3860000000003eb002 111 [(10,1,7),(10,4,8),(10,3,7),(10,5,8),(1,3,8),(22,11,8)]
def fi8:=fI 5 768 0x7f80007f80000000001fe03fc0000000000000cf81e 178 [(4,1,7),(4,4,8),(4,3,7),(4,5,8)]
def fi9:=fI 0 0 0 8 []
def AxX:=fI 2 12 0 5 []
def AxO:=fI 3 16 38 24 []
def AxG:=fI 0 0 0 16 []
def Ax8:=fI 0 0 0 8 [(3,0,5),(3,2,1)]
def Ax2:=fI 4 108 62 58 [(10,12,1),(1,6,8)]
def AQP:=fI 0 0 0 11 []
def AqM:=fI 0 0 12291 26 []
def AQO:=fI 0 0 57 61 []
def Aq5:=fI 0 0 389 30 []
def AQN:=fI 5 288 0 25 [(3,7,8)]
def AQM:=fI 3 48 0 19 []
def AQL:=fI 16 0x44000030 0x7c0000070e000003e40 101 [(14,8,1),(16,8,1),(6,2,7),(6,6,8),(6,5,7),(6,7,8),(9,5,8),(12,5,8)]
def AQK:=fI 13 0x1000030 0x700000640 65 [(5,2,7),(5,6,8),(5,5,7),(5,7,8),(8,5,8)]
def AQJ:=fI 3 48 0 19 []
def AQI:=fI 0 0 12291 26 []
def yP:=fI 3 48 38 26 []
def yH:=fI 6 1036 0x1ff800e0e0018 63 [(12,8,1),(6,5,8)]
def yC:=fI 10 0x40000 0xe0040 37 [(7,6,8)]
def yx:=fI 0 0 0 10 []
def yo:=fI 0 0 0 8 []
def yh:=fI 0 0 35 22 []
def yf:=fI 8 40960 711 33 [] [(30,7)]
def yc:=fI 0 0 1545 22 []
def AQH:=fI 0 0 35 19 []
def x9:=fI 0 0 99 53 []
def x8:=fI 2 12 0x3ff800000000003a 63 []
def xZ:=fI 0 0 0x1fff9f0009 38 []
def xY:=fI 0 0 0 8 []
def AQG:=fI 0 0 0x7ff00c800000000000030f 134 []
def AQF:=fI 0 0 0 8 []
def xX:=fI 0 0 35 18 []
def xW:=fI 0 0 0xfc0063 45 []
def AQE:=fI 6 1056 0 29 [(1,7,8)]
def AQD:=fI 6 1024 0x70718 31 [(8,5,1),(4,5,8)]
def AQC:=fI 26 0xc000000001030 0 26 [(1,7,8)]
def AQB:=fI 13 0x1109000 0x70000003000000e00000099 148 [(14,4,1),(22,4,1),(9,3,6),(29,2,9),(29,3,1),(5,3,8),(20,5,8),(8,5,8)] [(64,7),(69,7),(71,7),(75,7),(97,7),(102,7)]
def AQA:=fI 0 0 0 9 []
def xV:=fI 5 268 0xe000002 36 [(5,3,8)]
def xU:=fI 5 544 0xffe60395 45 [] [(36,4),(42,4)]
def IG:=fI 0 0 41 25 [(6,3,1)]
def AQ9:=fI 0 0 0x3ff000c7 49 []
def AQ8:=fI 0 0 1985 56 []
def AQ7:=fI 8 16384 963 65 [(2,3,8)]
def AQ6:=fI 10 0xc0000 0 57 []
def AQ5:=fI 0 0 193 32 []
def AQ4:=fI 0 0 0xffe00787 133 []
def AQ3:=fI 0 0 0 17 []
def AQ2:=fI 0 0 0x7fc07fe00000603 84 []
def AQ1:=fI 0 0 0x1ff80ff80000000000ffc07fc00000c03 168 []
def AQ0:=fI 0 0 0 19 []
def AwZ:=fI 0 0 0 25 []
def AwY:=fI 3 32 0 10 []
def AwX:=fI 36 0xc0011010400000102c 0xe000000000000e000000fe7e78070000000000e0000000000004121aa6 262 [(17,15,9),(17,16,1),(25,15,9),(25,16,1),(35,5,1),(5,7,8),(23,3,8),(30,3,8),(39,4,8),(44,3,8)]
def AwW:=fI 58 0xc0000000000000000000000040230 0 88 [(8,2,9),(8,2,9),(11,11,9),(5,8,8)]
def AwV:=fI 7 8960 0 22 []
def AwU:=fI 8 25344 0 45 [(1,5,8)]
def AwT:=fI 7 8960 0 13 []
def AwS:=fI 6 3072 29221 34 [(5,12,1)]
def AwR:=fI 8 16896 0 30 [(2,11,8)]
def AwQ:=fI 0 0 0 8 [(3,0,5),(3,2,1)]
def AwP:=fI 0 0 387 19 []
def xS:=fI 0 0 0 9 []
def xR:=fI 0 0 0 13 []
def AwO:=fI 0 0 0xfffc0010d 76 []
def AwN:=fI 0 0 0 7 []
def AwM:=fI 0 0 0 33 []
def AwL:=fI 0 0 0 15 []
def AwK:=fI 0 0 0 36 []
def AwJ:=fI 0 0 0 6 []
def AwI:=fI 12 0x500200 0 48 [(7,11,1),(8,0,3)]
def AwH:=fI 4 172 14 46 [] [(15,3),(22,3),(27,3),(33,3),(38,3),(44,3)]
def AwG:=fI 2 4 0 10 []
def AwF:=fI 9 74496 0xe0000045 81 [(2,6,9),(2,7,1),(6,8,1),(10,11,1),(5,3,8)] [(35,6),(44,6),(77,6)]
def AwE:=fI 9 65580 0x1c0064 40 [(8,3,9),(8,4,1),(7,3,8)]
def AwD:=fI 8 20480 0x38000001ff9c001c000038005 113 [(12,17,6),(12,19,1),(9,3,8),(10,8,8)]
def AwC:=fI 22 0xc000000010c 0 29 [(1,7,8)]
def AwB:=fI 21 0x20000110030 0x70006003fe003800001c018000000000780001c0007000019b986 222 [(12,8,6),(12,11,1),(14,15,1),(15,15,1),(30,3,1),(30,8,6),(30,9,1),(46,2,9),(46,3,1),(4,6,8),(7,5,8)]
def AwA:=fI 12 0xd44000 0x380000000070c87 72 [(6,14,1),(6,23,1),(1,3,8),(4,3,8),(8,3,8)]
def Aw9:=fI 0 0 0 9 []
def Aw8:FI:={ kd:=[.plain,.mapb [.i .i64 3,.i .i64 5,.i .i64 6,.i .i64 8,.i .i64 10,.i .i64 26,.i .i64 13,.i .i64 17,.i .i64 19,.i .i64 27],.plain,.ent 1 (.i .i64 3),.ent 1 (.i .i64 5),.ent 1 (.i .i64 6),.ent 1 (.i .i64 8),.ent 1 (.i .i64 10),.ent 1 (.i .i64 26),.ent 1 (.i .i64 13),.ent 1 (.i .i64 17),.ent 1 (.i .i64 19),.ent 1 (.i .i64 27)],al:=[],keep:=[],nt:=3,ps:=[(1,1,3),(1,2,4),(1,3,5),(1,4,6),(1,5,7),(1,6,8),(1,7,9),(1,8,10),(1,9,11),(1,10,12)],bt:=none,md:=[] }
def Aw7:=fI 0 0 0 9 []
def Aw6:=fI 23 0x240049040a00 0x1c00000000000780380000000000f3c03800000000f3 235 [(10,26,1),(21,3,6),(22,3,6),(25,4,1),(25,9,1),(34,3,9),(34,4,1),(6,3,8),(14,3,8),(19,8,8),(30,8,8)] [(154,5),(159,5),(164,5),(165,5),(209,5),(214,22),(216,5),(225,22),(226,22),(227,5),(232,5)]
def Aw5:=fI 8 49152 0 13 []
def Aw4:=fI 6 1028 904 20 []
def Aw3:=fI 9 65568 0x3800046 45 [] [(22,2)]
def AxW:=fI 5 544 0x3e0714 31 [] [(18,2),(24,2)]
def AxV:=fI 9 65600 0x1c002 26 []
def AxU:=fI 13 0x1000c00 0x7000000d 41 [(7,3,8)]
def AxT:FI:={ kd:=[.plain,.mapb [.i .i64 12,.i .i64 13,.i .i64 19,.i .i64 18,.i .i64 17,.i .i64 14,.i .i64 15,.i .i64 16],.plain,.ent 1 (.i .i64 12),.ent 1 (.i .i64 13),.ent 1 (.i .i64 19),.ent 1 (.i .i64 18),.ent 1 (.i .i64 17),.ent 1 (.i .i64 14),.ent 1 (.i .i64 15),.ent 1 (.i .i64 16)],al:=[],keep:=[],nt:=3,ps:=[(1,1,3),(1,2,4),(1,3,5),(1,4,6),(1,5,7),(1,6,8),(1,7,9),(1,8,10)],bt:=none,md:=[] }
def AxS:=fI 6 3072 557 31 []
def AxR:=fI 9 65600 0x1c002 26 []
def AxQ:=fI 11 0x100300 0xe0000095 47 [(5,3,1),(9,8,1),(8,5,8)]
def AxP:=fI 0 0 0 7 []
def rV:=fI 0 0 387 19 []
def AxN:=fI 0 0 0 28 []
def AxM:=fI 26 0xc000000100000 0x1c000181 83 [(22,8,1)]
def AxL:=fI 5 512 0 24 []
def AxK:=fI 0 0 0 14 [(1,5,1),(3,0,2)]
def AxJ:=fI 0 0 0 10 []
def AxI:=fI 6 1024 0 23 []
def AxH:=fI 9 86048 0 33 []
def AxF:=fI 7 5700 0 49 []
def E5:=fI 19 0x300000100c 0xe10000380070000030041a 105 [(4,6,1),(17,7,6),(25,4,6),(11,5,8)]
def AxE:=fI 5 512 0 26 []
def AxD:=fI 10 0x52404 0x70038048 58 [] [(42,6),(50,6)]
def AxC:=fI 17 0x1241150c0 0x1c0000000000000700000000000000000000000000000000000000000000000000000000000000000079 340 [(4,4,8),(4,5,8),(35,7,8),(43,7,8),(57,5,8),(72,3,8)]
def AxB:=fI 0 0 0 11 []
def AxA:=fI 2 4 0 40 []
def Ax9:=fI 13 0x1000030 0x1c0000700c04a6 78 [(21,4,1),(18,3,8)]
def Ax7:=fI 19 0x1200000030 0xffc00070000000fc001ff8060001e3c6 149 [(13,3,1),(28,4,1),(30,3,1),(24,3,8)] [(118,16),(124,16),(132,16),(136,16)]
def Ax6:=fI 4 192 0 20 []
def Ax5:=fI 4 192 0 13 []
def Ax4:=fI 4 192 0 24 []
def Ax3:=fI 5 704 0 37 [] [(15,4),(16,4),(23,4),(31,4)]
def Ax1:=fI 0 0 455 63 []
def Ax0:=fI 7 8720 0 48 [] [(36,6),(41,6)]
def AqZ:=fI 10 0x40000 28865 38 [(4,5,8)]
def AqY:=fI 4 132 0 10 []
def AqX:=fI 0 0 0 7 []
def AqW:=fI 0 0 0 7 []
def AqV:=fI 14 0x4000f00 0 120 [(1,5,6),(9,5,8)]
def AqU:=fI 0 0 49 41 []
def AqT:=fI 0 0 0x1c00010 36 []
def AqS:=fI 0 0 0 9 []
def AqR:=fI 4 64 0 14 []
def AqQ:=fI 0 0 0 12 []
def AqP:=fI 0 0 0 11 []
def AqO:=fI 0 0 0 9 []
def AqN:=fI 0 0 35 17 []
def AqL:=fI 14 0xa000000 0 52 [] [(38,13),(39,13),(43,13),(50,13)]
def AqK:=fI 3 32 0 28 []
def AqJ:=fI 3 32 0 57 []
def AqI:=fI 3 32 0xe00003d 41 []
def AqH:=fI 4 64 0 22 [(2,8,3)]
def AqG:FI:={ kd:=[.plain,.imm,.plain,.plain,.plain,.imm,.plain,.plain,.plain,.plain,.plain,.mapb [.i .i64 0,.i .i64 2,.i .i64 3,.i .i64 4,.i .i64 5,.i .i64 6,.i .i64 7,.i .i64 8,.i .i64 9,.i .i64 10,.i .i64 11,.i .i64 12,.i .i64 13,.i .i64 14,.i .i64 15,.i .i64 16,.i .i64 17,.i .i64 18,.i .i64 19,.i .i64 20,.i .i64 21,.i .i64 22,.i .i64 23,.i .i64 24,.i .i64 25,.i .i64 26,.i .i64 27,.i .i64 28,.i .i64 29],.plain,.plain,.plain,.plain,.plain,.plain,.plain,.plain,.plain,.plain,.plain,.plain,.plain,.plain,.plain,.plain,.plain,.plain,.plain,.plain,.plain,.plain,.plain,.plain,.plain,.plain,.plain,.plain,.plain,.plain,.plain,.plain,.plain,.plain,.plain,.plain,.plain,.plain,.plain,.plain,.plain,.plain,.plain,.plain,.plain,.plain,.plain,.plain,.plain,.plain,.plain,.plain,.plain,.plain,.plain,.plain,.plain,.plain,.plain,.plain,.plain,.plain,.plain,.plain,.plain,.plain,.plain,.plain,.plain,.plain,.plain,.plain,.plain,.plain,.plain,.plain,.plain,.plain,.plain,.plain,.plain,.plain,.plain,.plain,.plain,.plain,.plain,.plain,.plain,.plain,.plain,.plain,.plain,.plain,.plain,.plain,.plain,.plain,.plain,.plain,.plain,.plain,.plain,.plain,.plain,.plain,.plain,.ent 11 (.i .i64 0),.ent 11 (.i .i64 2),.ent 11 (.i .i64 3),.ent 11 (.i .i64 4),.ent 11 (.i .i64 5),.ent 11 (.i .i64 6),.ent 11 (.i .i64 7),.ent 11 (.i .i64 8),.ent 11 (.i .i64 9),.ent 11 (.i .i64 10),.ent 11 (.i .i64 11),.ent 11 (.i .i64 12),.ent 11 (.i .i64 13),.ent 11 (.i .i64 14),.ent 11 (.i .i64 15),.ent 11 (.i .i64 16),.ent 11 (.i .i64 17),.ent 11 (.i .i64 18),.ent 11 (.i .i64 19),.ent 11 (.i .i64 20),.ent 11 (.i .i64 21),.ent 11 (.i .i64 22),.ent 11 (.i .i64 23),.ent 11 (.i .i64 24),.ent 11 (.i .i64 25),.ent 11 (.i .i64 26),.ent 11 (.i .i64 27),.ent 11 (.i .i64 28),.ent 11 (.i .i64 29)],al:=[],keep:=[],nt:=119,ps:=[(4,2,119),(4,6,120),(4,11,121),(4,17,122),(4,25,123),(4,29,124),(4,34,125),(4,39,126),(4,42,127),(4,44,128),(4,46,129),(4,52,130),(4,56,131),(4,64,132),(4,69,133),(4,76,134),(4,81,135),(4,85,136),(4,89,137),(4,92,138),(4,98,139),(4,104,140),(4,109,141),(4,111,142),(4,115,143),(4,118,144),(4,122,145),(4,128,146),(4,135,147)],bt:=none,md:=[] }
def AqF:=fI 2 4 0 4 []
def AqE:=fI 7 4176 0x1c0000000004 64 []
def AqD:=fI 11 0x1040c0 0xe0000071b1 65 [(5,3,8),(11,3,8)]
def AqC:=fI 6 3840 0x800000000000000000000000000000004 250 [(5,6,6),(12,9,6),(41,6,6),(46,11,6),(49,11,6)]
def AqB:=fI 0 0 0 9 []
def AqA:=fI 9 65552 28768 28 []
def Aq9:=fI 7 7168 0 23 [(1,10,8)]
def Aq8:=fI 8 49152 0 24 [(1,13,1)]
def Aq7:=fI 8 61440 0 24 [(1,13,1)]
def Aq6:=fI 5 512 0 26 []
def Aq4:=fI 12 0x85cf00 0 63 [(1,4,8),(1,5,8)]
def Aq3:=fI 4 192 0xfff80e00a 39 [(1,3,6)]
def Aq2:=fI 8 16576 0x1c028 31 [(4,3,8)]
def Aq1:=fI 7 13360 0 15 [(5,2,6),(1,2,8)]
def Aq0:=fI 2 4 0 9 []
def z8:=fI 6 1024 0 19 [(1,7,8)]
def zZ:=fI 0 0 0x3ffc0030f 53 []
def zY:=fI 6 1040 0 22 []
def zX:=fI 0 0 0 8 [(3,0,5),(3,2,1)]
def zV:=fI 3 16 0 10 []
def zU:=fI 0 0 0 41 [(0,5,6),(3,8,9),(3,9,1)]
def zT:=fI 0 0 0 13 []
def zS:=fI 0 0 3 26 []
def zR:=fI 0 0 0x3cf9f3cf800000000101 82 []
def zQ:=fI 0 0 0x1f007 21 []
def zP:=fI 0 0 0 9 []
def zO:=fI 0 0 387 19 []
def zN:=fI 0 0 0 12 []
def zM:=fI 8 16416 0 27 []
def zL:=fI 3 32 0 14 []
def zK:=fI 0 0 0 10 []
def zJ:=fI 7 5152 0x39c03ff800000000000000185 103 []
def zI:=fI 0 0 0 25 []
def zH:=fI 2 4 0 4 []
def zG:=fI 0 0 0 9 []
def zF:=fI 2 4 0 4 []
def zD:=fI 0 0 0 9 []
def zC:=fI 2 4 0 4 []
def zB:=fI 0 0 0 5 []
def zA:=fI 0 0 0 13 []
def zz:=fI 0 0 0 20 []
def zy:=fI 0 0 0 9 []
def zx:=fI 0 0 0 13 []
def zw:=fI 0 0 0 19 [(0,2,6)]
def Fw:=fI 0 0 0x40018 30 [(8,3,1)]
def zu:=fI 12 0x400000 0x7002c 28 [(2,3,8)]
def zt:=fI 9 0x30000 0 49 [(7,12,1)]
def zq:=fI 7 12288 0 7 []
def zo:=fI 9 0x30000 0 47 [(2,6,6)]
def zn:=fI 0 0 0 29 [(3,5,6)]
def zm:=fI 8 49152 0 23 []
def zk:=fI 0 0 455 63 []
def zh:=fI 5 768 0 25 []
def zg:=fI 4 80 0 28 []
def zf:=fI 0 0 57356 29 [(3,2,6)]
def ze:FI:={ kd:=[.plain,.plain,.plain,.mapb [.i .i64 1,.i .i64 2,.i .i64 3,.i .i64 4],.plain,.plain,.plain,.plain,.plain,.plain,.plain,.plain,.plain,.ent 3 (.i .i64 1),.ent 3 (.i .i64 2),.ent 3 (.i .i64 3),.ent 3 (.i .i64 4)],al:=[],keep:=[],nt:=13,ps:=[(3,4,13),(3,8,14),(3,10,15),(3,12,16)],bt:=none,md:=[] }
def zb:=fI 8 16384 1825 30 []
def za:=fI 0 0 0 17 []
def y9:=fI 0 0 0 9 []
def y8:=fI 0 0 0 13 []
def yY:=fI 0 0 0 6 []
def yX:=fI 0 0 0x700000000003 56 []
def yV:=fI 0 0 0 13 []
def yU:=fI 8 20512 0 33 []
def yT:=fI 3 32 0 8 []
def yS:=fI 9 81952 0 43 []
def yR:=fI 0 0 0 13 []
def yQ:=fI 0 0 0 7 []
def yO:=fI 0 0 0 11 []
def yN:=fI 0 0 0 7 []
def yM:=fI 0 0 0x3ffc0030f 53 []
def yJ:=fI 3 16 0 13 []
def yI:=fI 3 16 0 9 []
def yG:FI:={ kd:=[.plain,.mapb [.s [114,101,99,111,114,100],.s [112,114,111,99],.s [118,97,114],.s [105,102],.s [101,108,115,101],.s [119,104,105,108,101],.s [102,111,114],.s [116,111],.s [114,101,116,117,114,110],.s [97,115,115,101,114,116],.s [97,110,100],.s [111,114],.s [110,111,116],.s [116,114,117,101],.s [102,97,108,115,101],.s [105,110,116],.s [98,111,111,108],.s [108,101,110]],.plain,.ent 1 (.s [114,101,99,111,114,100]),.ent 1 (.s [112,114,111,99]),.ent 1 (.s [118,97,114]),.ent 1 (.s [105,102]),.ent 1 (.s [101,108,115,101]),.ent 1 (.s [119,104,105,108,101]),.ent 1 (.s [102,111,114]),.ent 1 (.s [116,111]),.ent 1 (.s [114,101,116,117,114,110]),.ent 1 (.s [97,115,115,101,114,116]),.ent 1 (.s [97,110,100]),.ent 1 (.s [111,114]),.ent 1 (.s [110,111,116]),.ent 1 (.s [116,114,117,101]),.ent 1 (.s [102,97,108,115,101]),.ent 1 (.s [105,110,116]),.ent 1 (.s [98,111,111,108]),.ent 1 (.s [108,101,110])],al:=[],keep:=[],nt:=3,ps:=[(1,1,3),(1,2,4),(1,3,5),(1,4,6),(1,5,7),(1,6,8),(1,7,9),(1,8,10),(1,9,11),(1,10,12),(1,11,13),(1,12,14),(1,13,15),(1,14,16),(1,15,17),(1,16,18),(1,17,19),(1,18,20)],bt:=none,md:=[] }
def yF:=fI 6 1024 0 37 []
def yE:=fI 12 0x482000 967 35 []
def yD:=fI 3 32 0 8 []
def yB:=fI 6 1024 0 18 []
def yA:=fI 7 5152 0 42 []
def yz:=fI 0 0 7683 17 []
def yw:=fI 9 70688 0 42 []
def yu:=fI 3 32 0 18 []
def ym:=fI 3 32 0 8 []
def yl:=fI 3 32 0 8 []
def yj:=fI 6 1056 0 23 []
def yg:=fI 12 0x500020 0 101 []
end Go.Abs.Z

namespace Go.Abs.Z
open Go.Proofs
def ww(f:FuncId)(af:Cy):Prop:=∃fn fi,Tryz.prog.funcs[f]?=some fn∧(fn.name == "runtime.NumGoroutine")=false∧Gf Tryz.prog pur fi fn=some af∧Ei (af.ntmps+af.extra) af.code=true
end Go.Abs.Z

namespace Go.Abs.Z
noncomputable section
open Go.Proofs
def cA(f:FuncId)(fi:FI):Cy:=match Tryz.prog.funcs[f]? with
 |some fn=>match Gf Tryz.prog pur fi fn with
  |some af=>af
  |none=>⟨0,0,0,[],.skip⟩
 |none=>⟨0,0,0,[],.skip⟩
def chk(f:FuncId)(fi:FI):Bool:=match Tryz.prog.funcs[f]? with
 |some fn=>!(fn.name == "runtime.NumGoroutine")&&(match Gf Tryz.prog pur fi fn with
  |some af=>Ei (af.ntmps+af.extra) af.code
  |none=>false)
 |none=>false
theorem vF{f:FuncId}{fi:FI}(h:chk f fi=true):ww f (cA f fi):=by
 unfold chk at h;unfold cA
 split at h
 ·rename_i fn hf;rw[Ak] at h;obtain⟨h1,h2⟩:=h
  split at h2
  ·rename_i af hc;exact⟨fn,fi,hf,by simpa using h1,hc,h2⟩
  ·cases h2
 ·cases h
def a30:Cy:=cA 30 yh
def a31:Cy:=cA 31 yf
def a29:Cy:=cA 29 yo
def a48:Cy:=cA 48 xU
def a28:Cy:=cA 28 yx
def a72:Cy:=cA 72 xS
def a73:Cy:=cA 73 xR
def VM:Cy:=cA 110 rV
def a27:Cy:=cA 27 yC
def a32:Cy:=cA 32 yc
def a16:Cy:=cA 16 AqM
def a7:Cy:=cA 7 fi7
def a26:Cy:=cA 26 yH
def a47:Cy:=cA 47 xV
def a3:Cy:=cA 3 fi3
def a4:Cy:=cA 4 fi4
def a6:Cy:=cA 6 fi6
def a9:Cy:=cA 9 fi9
def a10:Cy:=cA 10 AxX
def a11:Cy:=cA 11 AxO
def a12:Cy:=cA 12 AxG
def a13:Cy:=cA 13 Ax8
def a14:Cy:=cA 14 Ax2
def a18:Cy:=cA 18 Aq5
def a25:Cy:=cA 25 yP
def a34:Cy:=cA 34 x9
def a35:Cy:=cA 35 x8
def a36:Cy:=cA 36 xZ
def a37:Cy:=cA 37 xY
def a40:Cy:=cA 40 xX
def a41:Cy:=cA 41 xW
end
end Go.Abs.Z
