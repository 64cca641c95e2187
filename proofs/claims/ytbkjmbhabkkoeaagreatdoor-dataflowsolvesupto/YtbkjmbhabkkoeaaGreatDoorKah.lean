/- A part of the proof: A33 T0 T3a T1. -/
import Derived.Test.YtbkjmbhabkkoeaaGreatDoorKag
import Derived.Test.YtbkjmbhabkkoeaaGreatDoorProg

set_option linter.unusedVariables false
set_option linter.unusedSimpArgs false
namespace Go.Abs
open Go.RowKit
abbrev FF:=List (Nat×Option PV)
noncomputable section
abbrev RFS:=Option (FF×Sto)
abbrev RX:=Option (Bp×FF×Sto)
def Dr(ff:FF)(t:Nat):Option PV:=List.rec (motive:=fun _=>Option PV) none (fun p _ ih=>cond (Nat.beq p.1 t) p.2 ih) ff
def DX(ff:FF)(az:List Co):Option (List PV):=
 List.rec (motive:=fun _=>Option (List PV)) (some []) (fun a _ ih=>Co.rec (motive:=fun _=>Option (List PV))
  (fun t=>Option.rec (motive:=fun _=>Option (List PV)) none (fun v=>Option.rec (motive:=fun _=>Option (List PV)) none (fun vs=>some (v::vs)) ih) (Dr ff t))
  (fun v=>Option.rec (motive:=fun _=>Option (List PV)) none (fun vs=>some (v::vs)) ih) a) az
def Kq(ts:List Nat):List (Option PV)→FF→FF:=
 List.rec (motive:=fun _=>List (Option PV)→FF→FF) (fun _ ff=>ff) (fun t _ ih vs ff=>List.rec (motive:=fun _=>FF) ff (fun v vs _=>ih vs ((t,v)::ff)) vs) ts
def EJ(v:Option PV)(b:Bool):Option Bool:=
 match v with
  |some (.bool c)=>some (c==b)
  |some (.tuple [])=>some false
  |_=>none
def IR(pur:FuncId→Bool)(call:Caller)(o:AOp)(ff:FF)(σ:Sto):RFS:=
 Option.rec (motive:=fun _=>RFS) none (fun vs=>
  Option.rec (motive:=fun _=>RFS) none (fun r => 
   cond (Nat.beq r.1.length (o.dst.toList.length+o.ex.length)) (some (Kq o.wr (r.1++o.clr.map fun _=>none) ff,r.2))
    (cond (o.dst.isNone&&o.ex.isEmpty&&o.clr.isEmpty) (some (ff,r.2)) none)) (sem pur call o.k vs σ)) (DX ff o.args)
def F5(pur:FuncId→Bool)(call:Caller)(o:AOp)(ff:FF)(σ:Sto):RFS:=
 Option.rec (motive:=fun _=>RFS) (IR pur call o ff σ) (fun g => 
  Option.rec (motive:=fun _=>RFS) none (fun b=>cond b (IR pur call o ff σ) (cond (o.ex.isEmpty&&o.clr.isEmpty) (some (Kq o.wr [some Ii] ff,σ)) none)) (EJ (Dr ff g.1) g.2)) o.guard
def LW(pur:FuncId→Bool)(call:Caller)(os:List AOp):FF→Sto→RX:=
 List.rec (motive:=fun _=>FF→Sto→RX) (fun ff σ=>some (.normal,ff,σ)) (fun o _ ih ff σ=>
  Option.rec (motive:=fun _=>RX) none (fun r=>ih r.1 r.2) (F5 pur call o ff σ)) os
def trK(pur:FuncId→Bool)(call:Caller)(os:List AOp):FF→Sto→Option (List (FF×Sto)):=
 List.rec (motive:=fun _=>FF→Sto→Option (List (FF×Sto))) (fun ff σ=>some [(ff,σ)]) (fun o _ ih ff σ=>
  Option.rec (motive:=fun _=>Option (List (FF×Sto))) none (fun r=>Option.rec (motive:=fun _=>Option (List (FF×Sto))) none (fun l=>some ((ff,σ)::l)) (ih r.1 r.2)) (F5 pur call o ff σ)) os
def ldK(o:AOp)(ff:FF)(σ:Sto):Option (List (Option PV)):=match o.guard with
 |none=>match o.k,DX ff o.args with
  |.r k,some vs=>Cs k vs σ
  |_,_=>none
 |some g=>match EJ (Dr ff g.1) g.2 with
  |some true=>match o.k,DX ff o.args with
   |.r k,some vs=>Cs k vs σ
   |_,_=>none
  |some false=>some []
  |none=>none
def Uw(ops:List AOp)(tr:List (FF×Sto))(lo:List (Nat×Nat)):Bool:=lo.all fun p=>match ops[p.2]?,tr[p.2]?,tr[p.1]?,tr[p.1+1]? with
 |some o,some (ff,_),some (_,σ),some (_,σ')=>OW (ldK o ff σ) (ldK o ff σ')
 |_,_,_,_=>false
def WP(pur:FuncId→Bool)(call:Caller)(ops:List AOp)(lo:List (Nat×Nat))(ff:FF)(σ:Sto):RX:=
 Option.rec (motive:=fun _=>RX) none (fun tr=>cond (Uw ops tr lo) (Option.rec (motive:=fun _=>RX) none (fun x=>some (.normal,x.1,x.2)) tr.getLast?) none) (trK pur call ops ff σ)
def E9(e:Bp):Bool:=Bp.rec (motive:=fun _=>Bool) true (fun _=>false) false e
def DL(ff:FF)(keep:List Bool):Nat→FF:=
 List.rec (motive:=fun _=>Nat→FF) (fun _=>[]) (fun b _ ih n=>cond b ((n,Dr ff n)::ih (n+1)) (ih (n+1))) keep
def Ma(keep:List Bool)(body:FF→Sto→RX)(n:Nat):FF→Sto→RX:=
 Nat.rec (motive:=fun _=>FF→Sto→RX) (fun _ _=>none) (fun _ ih ff σ=>
  Option.rec (motive:=fun _=>RX) none (fun r=>cond (E9 r.1) (ih (DL r.2.1 keep 0) r.2.2) (some r)) (body ff σ)) n
def WR(v:Option (List PV))(x y:RX):RX:=match v with
 |some [.bool b]=>cond b x y
 |_=>none
def EI(pur:FuncId→Bool)(call:Caller)(n:Nat)(c:Dh):FF→Sto→RX:=
 Dh.rec (motive:=fun _=>FF→Sto→RX)
  (fun ff σ=>some (.normal,ff,σ))
  (fun ops=>LW pur call ops)
  (fun _ _ iha ihb ff σ=>Option.rec (motive:=fun _=>RX) none (fun r=>cond (E9 r.1) (ihb r.2.1 r.2.2) (some r)) (iha ff σ))
  (fun c _ _ iht ihe ff σ=>WR (DX ff [c]) (iht ff σ) (ihe ff σ))
  (fun id _ ih ff σ=>Option.rec (motive:=fun _=>RX) none (fun r=>Bp.rec (motive:=fun _=>RX) (some r) (fun i=>cond (Nat.beq i id) (some (.normal,r.2)) (some r)) (some r) r.1) (ih ff σ))
  (fun keep _ ih ff σ=>Ma keep ih n (DL ff keep 0) σ)
  (fun id ff σ=>some (.exit id,ff,σ))
  (fun ff σ=>some (.ret,ff,σ))
  (fun ops lo=>WP pur call ops lo) c
def I5(args:List PV):Nat→FF:=List.rec (motive:=fun _=>Nat→FF) (fun _=>[]) (fun a _ ih n=>(n,some a)::ih (n+1)) args
def Gm(ff:FF)(rs:List (Nat×Option Nat)):Option (List PV):=
 List.rec (motive:=fun _=>Option (List PV)) (some []) (fun r _ ih=>match Dr ff r.1,ih with
  |some v,some vs=>if KP v r.2 then some (v.Ag::vs) else(KQ v r.2).map fun r=>r::vs
  |_,_=>none) rs
def Ij(pur:FuncId→Bool)(call:Caller)(n:Nat)(fn:CQ)(args:List PV)(σ:Sto):Option (PV×Sto):=
 cond (Nat.beq args.length fn.nargs&&Nat.ble args.length fn.ntmps)
  (Option.rec (motive:=fun _=>Option (PV×Sto)) none (fun r=>Bp.rec (motive:=fun _=>Option (PV×Sto)) ((Gm r.2.1 fn.results).bind fun vs=>(Fg vs).map fun x=>(x,r.2.2)) (fun _=>none)
   ((Gm r.2.1 fn.results).bind fun vs=>(Fg vs).map fun x=>(x,r.2.2)) r.1) (EI pur call n fn.code (I5 args 0) σ)) none
def Qx(N:Nat)(o:AOp):Bool:=o.wr.all fun t=>Nat.blt t N
def El(N:Nat):Dh→Bool
 |.region ops=>ops.all (Qx N)
 |.draw ops _=>ops.all (Qx N)
 |.seq a b=>El N a&&El N b
 |.cond _ t e=>El N t&&El N e
 |.block _ c=>El N c
 |.loop keep c=>Nat.beq keep.length N&&El N c
 |_=>true
abbrev HV:=Caller→List PV→Sto→Option (PV×Sto)
def Mf(pur:FuncId→Bool)(prim:FuncId→Option HV)(tab:FuncId→Option CQ)(n:Nat):Caller:=
 Nat.rec (motive:=fun _=>Caller) (fun _ _ _=>none) (fun n ih f args σ=>Option.rec (motive:=fun _=>Option (PV×Sto))
  (Option.rec (motive:=fun _=>Option (PV×Sto)) none (fun fn=>Ij pur ih n fn args σ) (tab f)) (fun g=>g ih args σ) (prim f)) n
end
structure Rel(N:Nat)(ff:FF)(A:Frm):Prop where
 len:A.length=N
 get:∀t v,Dr ff t=some v→A.get t=some v
section
variable{P:Program}{pur:FuncId→Bool}{call:Caller}{N:Nat}{ff ff':FF}{A:Frm}{σ σ':Sto}
theorem FO(p:Nat×Option PV)(ff:FF)(t:Nat):Dr (p::ff) t=cond (Nat.beq p.1 t) p.2 (Dr ff t):=rfl
theorem IL(h:Rel N ff A):∀(az:List Co) (vs:List PV),DX ff az=some vs→BJ A az=some vs
 |[],vs,he=>by cases he;rfl
 |.slot t::az,vs,he=>by
  have he':(Option.rec (motive:=fun _=>Option (List PV)) none (fun v=>Option.rec (motive:=fun _=>Option (List PV)) none (fun vs=>some (v::vs)) (DX ff az)) (Dr ff t))=some vs:=he
  cases hg:Dr ff t with
  |none=>rw[hg] at he';cases he'
  |some v=>
   rw[hg] at he';cases hr:DX ff az with
   |none=>rw[hr] at he';cases he'
   |some ws=>
    rw[hr] at he';cases he';simp only[BJ,h.get t v hg,IL h az ws hr]
 |.val v::az,vs,he=>by
  have he':(Option.rec (motive:=fun _=>Option (List PV)) none (fun vs=>some (v::vs)) (DX ff az))=some vs:=he
  cases hr:DX ff az with
  |none=>rw[hr] at he';cases he'
  |some ws=>
   rw[hr] at he';cases he';simp only[BJ,IL h az ws hr,AB]
theorem MZ:∀(ts:List Nat) (vs:List (Option PV)) {ff:FF} {A:Frm},Rel N ff A→(∀t∈ts,t<N)→Rel N (Kq ts vs ff) (CS A ts vs)
 |[],vs,ff,A,h,_=>by cases vs<;>exact h
 |t::ts,[],ff,A,h,_=>h
 |t::ts,v::vs,ff,A,h,ht=>by
  refine MZ ts vs (ff:=(t,v)::ff) (A:=A.set t v) ⟨by rw[Bw];exact h.len,fun s x hx=>?_⟩ (fun s hs=>ht s (BB _ hs))
  rw[FO] at hx;rw[CY];cases hb:Nat.beq t s with
  |true=>
   rw[hb] at hx;have:t=s:=AV hb;subst this;rw[if_pos ⟨rfl,by rw[h.len];exact ht t (BA ..)⟩]
   exact hx
  |false=>
   rw[hb] at hx;have:t≠s:=Dy hb;rw[if_neg (fun e=>this e.1.symm)]
   exact h.get s x hx
theorem SH{o:AOp}(h:Qx N o=true):∀t∈o.wr,t<N:=by
 intro t ht;have:=Ao.1 h t ht;exact DN this
theorem Vs{o:AOp}(h:Rel N ff A)(ho:Qx N o=true)(he:IR pur call o ff σ=some (ff',σ')):∃A',BV pur call o A σ=some (A',σ')∧Rel N ff' A':=by
 unfold IR at he;cases hv:DX ff o.args with
 |none=>rw[hv] at he;cases he
 |some vs=>
  rw[hv] at he;dsimp only at he;cases hs:sem pur call o.k vs σ with
  |none=>rw[hs] at he;cases he
  |some r=>
   obtain⟨rs,σ1⟩:=r;rw[hs] at he;dsimp only at he;unfold BV;rw[IL h _ _ hv];dsimp only;rw[hs];dsimp only;cases hb:Nat.beq rs.length (o.dst.toList.length+o.ex.length) with
   |true=>
    rw[hb] at he;cases he;rw[if_pos (AV hb)];exact⟨_,rfl,MZ _ _ h (SH ho)⟩
   |false=>
    rw[hb] at he;rw[if_neg (Dy hb)];cases hc:(o.dst.isNone&&o.ex.isEmpty&&o.clr.isEmpty) with
    |true=>
     rw[hc] at he;cases he;simp only[Ak,D9] at hc;rw[if_pos ⟨hc.1.1,hc.1.2,hc.2⟩];exact⟨A,rfl,h⟩
    |false=>rw[hc] at he;cases he
theorem Tk{o:AOp}(h:Rel N ff A)(ho:Qx N o=true)(he:F5 pur call o ff σ=some (ff',σ')):∃A',FN pur call o A σ=some (A',σ')∧Rel N ff' A':=by
 unfold F5 at he;unfold FN;cases hg:o.guard with
 |none=>
  rw[hg] at he;exact Vs h ho he
 |some g=>
  obtain⟨t,b⟩:=g;rw[hg] at he;dsimp only at he
  have hw:∀x,EJ (Dr ff t) b=some x→FC A (some (t,b))=some x:=by
   intro x hx;simp only[FC];cases hgt:Dr ff t with
   |none=>rw[hgt] at hx;simp[EJ] at hx
   |some v=>
    rw[hgt] at hx;rw[h.get t v hgt];unfold EJ at hx
    split at hx
    ·rename_i e;cases e;exact hx
    ·rename_i e;cases e;exact hx
    ·cases hx
  cases hwk:EJ (Dr ff t) b with
  |none=>rw[hwk] at he;cases he
  |some x=>
   rw[hwk] at he;rw[hw x hwk];cases x with
   |true=>exact Vs h ho he
   |false=>
    have he':cond (o.ex.isEmpty&&o.clr.isEmpty) (some (Kq o.wr [some Ii] ff,σ)) none=some (ff',σ'):=he;cases hc:(o.ex.isEmpty&&o.clr.isEmpty) with
    |true=>
     rw[hc] at he';cases he';simp only[Ak,D9] at hc;dsimp only;rw[if_pos hc];exact⟨_,rfl,MZ _ _ h (SH ho)⟩
    |false=>rw[hc] at he';cases he'
theorem Qv:∀(os:List AOp) {ff:FF} {A:Frm} {σ:Sto} {e:Bp} {ff':FF} {σ':Sto},Rel N ff A→os.all (Qx N)=true→LW pur call os ff σ=some (e,ff',σ')→
  e=.normal∧∃A',Gf pur call os A σ=some (A',σ')∧Rel N ff' A'
 |[],ff,A,σ,e,ff',σ',h,_,he=>by cases he;exact⟨rfl,A,rfl,h⟩
 |o::os,ff,A,σ,e,ff',σ',h,ho,he=>by
  simp only[AQ,Ak] at ho;have he':Option.rec (motive:=fun _=>RX) none (fun r=>LW pur call os r.1 r.2) (F5 pur call o ff σ)=some (e,ff',σ'):=he
  cases hx:F5 pur call o ff σ with
  |none=>rw[hx] at he';cases he'
  |some r=>
   obtain⟨ff1,σ1⟩:=r;rw[hx] at he';obtain⟨A1,h1,h2⟩:=Tk h ho.1 hx;obtain⟨e1,A',h3,h4⟩:=Qv os h2 ho.2 he';refine⟨e1,A',?_,h4⟩
   simp only[Gf,h1,h3]
theorem Yv:∀(os:List AOp) {ff:FF} {A:Frm} {σ:Sto} {tr:List (FF×Sto)},Rel N ff A→os.all (Qx N)=true→trK pur call os ff σ=some tr→
  ∃tr',Kb pur call os A σ=some tr'∧tr'.length=tr.length∧∀(i:Nat) (x:FF×Sto),tr[i]?=some x→∃y,tr'[i]?=some y∧Rel N x.1 y.1∧y.2=x.2
 |[],ff,A,σ,tr,h,_,he=>by
  cases he;refine⟨_,rfl,rfl,fun i x hx=>?_⟩
  cases i with
  |zero=>simp at hx;subst hx;exact⟨_,rfl,h,rfl⟩
  |succ i=>simp at hx
 |o::os,ff,A,σ,tr,h,ho,he=>by
  simp only[AQ,Ak] at ho;have he':Option.rec (motive:=fun _=>Option (List (FF×Sto))) none (fun r=>Option.rec (motive:=fun _=>Option (List (FF×Sto))) none (fun l=>some ((ff,σ)::l)) (trK pur call os r.1 r.2)) (F5 pur call o ff σ)=some tr:=he
  cases hx:F5 pur call o ff σ with
  |none=>rw[hx] at he';cases he'
  |some r=>
   obtain⟨ff1,σ1⟩:=r;rw[hx] at he';dsimp only at he';cases hy:trK pur call os ff1 σ1 with
   |none=>rw[hy] at he';cases he'
   |some l=>
    rw[hy] at he';cases he';obtain⟨A1,h1,h2⟩:=Tk h ho.1 hx;obtain⟨tr',h3,h4,h5⟩:=Yv os h2 ho.2 hy;refine⟨(A,σ)::tr',by simp only[Kb,h1,h3,AB],by simp[h4],fun i x hx=>?_⟩
    cases i with
    |zero=>simp at hx;subst hx;exact⟨_,rfl,h,rfl⟩
    |succ i=>exact h5 i x (by simpa using hx)
theorem Zg{o:AOp}{l:List (Option PV)}(h:Rel N ff A)(he:ldK o ff σ=some l):Jn o A σ=some l:=by
 have key:(match o.k,DX ff o.args with | .r k,some vs=>Cs k vs σ | _,_=>none)=some l→(match o.k,BJ A o.args with | .r k,some vs=>Cs k vs σ | _,_=>none)=some l:=by
  intro hh
  split at hh
  ·rename_i k vs hk hv;rw[hk,IL h _ _ hv];exact hh
  ·cases hh
 unfold ldK at he;unfold Jn;cases hg:o.guard with
 |none=>rw[hg] at he;exact key he
 |some g=>
  obtain⟨t,b⟩:=g;rw[hg] at he;dsimp only at he
  have hw:∀x,EJ (Dr ff t) b=some x→FC A (some (t,b))=some x:=by
   intro x hx;simp only[FC];cases hgt:Dr ff t with
   |none=>rw[hgt] at hx;simp[EJ] at hx
   |some v=>
    rw[hgt] at hx;rw[h.get t v hgt];unfold EJ at hx
    split at hx
    ·rename_i e;cases e;exact hx
    ·rename_i e;cases e;exact hx
    ·cases hx
  split at he
  ·rename_i hx;rw[hw _ hx];exact key he
  ·rename_i hx;rw[hw _ hx];exact he
  ·cases he
theorem Ym{l l':Option (List (Option PV))}(h:OW l l'=true):∃x y,l=some x∧l'=some y:=by
 unfold OW at h
 split at h
 ·exact⟨_,_,rfl,rfl⟩
 ·cases h
theorem aR{ops:List AOp}{lo:List (Nat×Nat)}{e:Bp}(h:Rel N ff A)(ho:ops.all (Qx N)=true)(he:WP pur call ops lo ff σ=some (e,ff',σ')):
  e=.normal∧∃A',Gq pur call ops lo A σ=some (A',σ')∧Rel N ff' A':=by
 unfold WP at he;cases htr:trK pur call ops ff σ with
 |none=>rw[htr] at he;cases he
 |some tr=>
  rw[htr] at he;dsimp only at he;cases hl:Uw ops tr lo with
  |false=>rw[hl] at he;cases he
  |true=>
   rw[hl] at he;have he:Option.rec (motive:=fun _=>RX) none (fun x=>some (.normal,x.1,x.2)) tr.getLast?=some (e,ff',σ'):=he
   cases hlast:tr.getLast? with
   |none=>rw[hlast] at he;cases he
   |some x=>
    rw[hlast] at he;cases he;obtain⟨tr',h1,h2,h3⟩:=Yv ops h ho htr;have hlast':=hlast;rw[List.getLast?_eq_getElem?] at hlast'
    obtain⟨y,hy1,hy2,hy3⟩:=h3 _ _ hlast';refine⟨rfl,y.1,?_,hy2⟩
    unfold Gq;rw[h1]
    have hlo:Uv ops tr' lo=true:=by
     refine Ao.2 fun p hp=>?_
     have:=Ao.1 hl p hp
     split at this
     ·rename_i o f1 s1 f2 s2 f3 s3 ho q1 q2 q3;obtain⟨z1,w1,r1,_⟩:=h3 _ _ q1;obtain⟨z2,w2,_,k2⟩:=h3 _ _ q2;obtain⟨z3,w3,_,k3⟩:=h3 _ _ q3;obtain⟨x1,x2,e1,e2⟩:=Ym this;rw[ho,w1,w2,w3];show OW (Jn o z1.1 z2.2) (Jn o z1.1 z3.2)=true;rw[k2,k3,Zg r1 e1,Zg r1 e2];rw[e1,e2] at this;exact this
     ·cases this
    show(if Uv ops tr' lo=true then tr'.getLast? else none)=_
    rw[if_pos hlo,List.getLast?_eq_getElem?,h2,hy1,←hy3]
theorem Tc(ff:FF):∀(keep:List Bool) (n t:Nat) (v:PV),Dr (DL ff keep n) t=some v→Dr ff t=some v∧n≤t∧keep[t - n]?=some true
 |[],n,t,v,h=>by cases h
 |b::keep,n,t,v,h=>by
  have h':Dr (cond b ((n,Dr ff n)::DL ff keep (n+1)) (DL ff keep (n+1))) t=some v:=h
  have rec':Dr (DL ff keep (n+1)) t=some v→Dr ff t=some v∧n≤t∧(b::keep)[t - n]?=some true:=by
   intro h;obtain⟨h1,h2,h3⟩:=Tc ff keep (n+1) t v h;refine⟨h1,by omega,?_⟩
   rw[show t - n=(t - (n+1))+1 from by omega,List.getElem?_cons_succ];exact h3
  cases b with
  |false=>exact rec' h'
  |true=>
   have h'':cond (Nat.beq n t) (Dr ff n) (Dr (DL ff keep (n+1)) t)=some v:=h';cases hb:Nat.beq n t with
   |true=>
    rw[hb] at h'';have:n=t:=AV hb;subst this;exact⟨h'',Bd _,by simp⟩
   |false=>rw[hb] at h'';exact rec' h''
theorem VN{keep:List Bool}(hk:keep.length=N)(h:Rel N ff A):Rel N (DL ff keep 0) (mask keep A):=by
 refine⟨by rw[H9 (by rw[hk,h.len])];exact h.len,fun t v hv=>?_⟩
 obtain⟨h1,_,h3⟩:=Tc ff keep 0 t v hv;have hg:=h.get t v h1;rw[Nat.sub_zero] at h3;unfold Frm.get at hg ⊢;unfold mask;rw[Ce,h3];cases ha:A[t]? with
 |none=>rw[ha] at hg;cases hg
 |some x=>rw[ha] at hg;simpa using hg
theorem SY{keep:List Bool}(hk:keep.length=N){bodyK:FF→Sto→RX}{body:Frm→Sto→Option (Bp×Frm×Sto)}
  (hb:∀ff A σ e ff' σ',Rel N ff A→bodyK ff σ=some (e,ff',σ')→∃A',body A σ=some (e,A',σ')∧Rel N ff' A') :
  ∀(n:Nat) (ff:FF) (A:Frm) (σ:Sto) (e:Bp) (ff':FF) (σ':Sto),Rel N ff A→Ma keep bodyK n ff σ=some (e,ff',σ')→∃A',iter keep body n A σ=some (e,A',σ')∧Rel N ff' A'
 |0,ff,A,σ,e,ff',σ',_,h=>by cases h
 |n+1,ff,A,σ,e,ff',σ',hr,h=>by
  have h':Option.rec (motive:=fun _=>RX) none (fun r=>cond (E9 r.1) (Ma keep bodyK n (DL r.2.1 keep 0) r.2.2) (some r)) (bodyK ff σ)=some (e,ff',σ'):=h
  cases hx:bodyK ff σ with
  |none=>rw[hx] at h';cases h'
  |some r=>
   obtain⟨e1,ff1,σ1⟩:=r;rw[hx] at h';obtain⟨A1,h1,h2⟩:=hb _ _ _ _ _ _ hr hx;simp only[iter,h1];cases e1 with
   |normal=>exact SY hk hb n _ _ _ _ _ _ (VN hk h2) h'
   |exit i=>cases h';exact⟨A1,rfl,h2⟩
   |ret=>cases h';exact⟨A1,rfl,h2⟩
theorem Oo{n:Nat}:∀(c:Dh) (ff:FF) (A:Frm) (σ:Sto) (e:Bp) (ff':FF) (σ':Sto),El N c=true→Rel N ff A→EI pur call n c ff σ=some (e,ff',σ')→
  ∃A',FX pur call n c A σ=some (e,A',σ')∧Rel N ff' A':=by
 intro c
 induction c with
 |skip=>intro ff A σ e ff' σ' _ hr h;cases h;exact⟨A,rfl,hr⟩
 |region ops=>
  intro ff A σ e ff' σ' ho hr h;obtain⟨rfl,A',h1,h2⟩:=Qv ops hr ho h;exact⟨A',by simp only[FX,h1,AB],h2⟩
 |draw ops lo=>
  intro ff A σ e ff' σ' ho hr h;obtain⟨rfl,A',h1,h2⟩:=aR hr ho h;exact⟨A',by simp only[FX,h1,AB],h2⟩
 |seq x y ihx ihy=>
  intro ff A σ e ff' σ' ho hr h;simp only[El,Ak] at ho;have h':Option.rec (motive:=fun _=>RX) none (fun r=>cond (E9 r.1) (EI pur call n y r.2.1 r.2.2) (some r)) (EI pur call n x ff σ)=some (e,ff',σ'):=h
  cases hx:EI pur call n x ff σ with
  |none=>rw[hx] at h';cases h'
  |some r=>
   obtain⟨e1,ff1,σ1⟩:=r;rw[hx] at h';obtain⟨A1,h1,h2⟩:=ihx _ _ _ _ _ _ ho.1 hr hx;simp only[FX,h1];cases e1 with
   |normal=>exact ihy _ _ _ _ _ _ ho.2 h2 h'
   |exit i=>cases h';exact⟨A1,rfl,h2⟩
   |ret=>cases h';exact⟨A1,rfl,h2⟩
 |cond c t e iht ihe=>
  intro ff A σ e ff' σ' ho hr h;simp only[El,Ak] at ho;have h':WR (DX ff [c]) (EI pur call n t ff σ) (EI pur call n _ ff σ)=some (e,ff',σ'):=h;unfold WR at h'
  split at h'
  ·rename_i b hb;have:=IL hr _ _ hb;simp only[FX,this];cases b with
   |true=>exact iht _ _ _ _ _ _ ho.1 hr h'
   |false=>exact ihe _ _ _ _ _ _ ho.2 hr h'
  ·cases h'
 |block id c ih=>
  intro ff A σ e ff' σ' ho hr h;have h':Option.rec (motive:=fun _=>RX) none (fun r=>Bp.rec (motive:=fun _=>RX) (some r) (fun i=>cond (Nat.beq i id) (some (.normal,r.2)) (some r)) (some r) r.1) (EI pur call n c ff σ)=some (e,ff',σ'):=h
  cases hx:EI pur call n c ff σ with
  |none=>rw[hx] at h';cases h'
  |some r=>
   obtain⟨e1,ff1,σ1⟩:=r;rw[hx] at h';obtain⟨A1,h1,h2⟩:=ih _ _ _ _ _ _ ho hr hx;simp only[FX,h1];cases e1 with
   |normal=>cases h';exact⟨A1,rfl,h2⟩
   |exit i=>
    have h'':cond (Nat.beq i id) (some (Bp.normal,ff1,σ1)) (some (.exit i,ff1,σ1))=some (e,ff',σ'):=h';cases hb:Nat.beq i id with
    |true=>
     rw[hb] at h'';cases h'';dsimp only;rw[if_pos (AV hb)];exact⟨A1,rfl,h2⟩
    |false=>
     rw[hb] at h'';cases h'';dsimp only;rw[if_neg (Dy hb)];exact⟨A1,rfl,h2⟩
   |ret=>cases h';exact⟨A1,rfl,h2⟩
 |loop keep c ih=>
  intro ff A σ e ff' σ' ho hr h;simp only[El,Ak] at ho;have hk:keep.length=N:=AV ho.1;simp only[FX];rw[if_pos (by rw[hk,hr.len])]
  exact SY hk (fun ff A σ e ff' σ' hr h=>ih ff A σ e ff' σ' ho.2 hr h) n _ _ _ _ _ _ (VN hk hr) h
 |exit id=>intro ff A σ e ff' σ' _ hr h;cases h;exact⟨A,rfl,hr⟩
 |ret=>intro ff A σ e ff' σ' _ hr h;cases h;exact⟨A,rfl,hr⟩
theorem Oe:∀(args:List PV) (n t:Nat) (v:PV),Dr (I5 args n) t=some v→n≤t∧args[t - n]?=some v
 |[],n,t,v,h=>by cases h
 |a::args,n,t,v,h=>by
  have h':cond (Nat.beq n t) (some a) (Dr (I5 args (n+1)) t)=some v:=h;cases hb:Nat.beq n t with
  |true=>
   rw[hb] at h';have:n=t:=AV hb;subst this;exact⟨Bd _,by simpa using h'⟩
  |false=>
   rw[hb] at h';obtain⟨h1,h2⟩:=Oe args (n+1) t v h';refine⟨by omega,?_⟩
   rw[show t - n=(t - (n+1))+1 from by omega,List.getElem?_cons_succ];exact h2
theorem Qi(h:Rel N ff A):∀(rs:List (Nat×Option Nat)) (vs:List PV),Gm ff rs=some vs→Fs A rs=some vs
 |[],vs,hr=>by cases hr;rfl
 |(t,n)::rs,vs,hr=>by
  have hr':(match Dr ff t,Gm ff rs with | some v,some vs=>if KP v n then some (v.Ag::vs) else(KQ v n).map fun r=>r::vs | _,_=>none)=some vs:=hr
  split at hr'
  ·rename_i v ws hg hw;simp only[Fs,h.get t v hg,Qi h rs ws hw];exact hr'
  ·cases hr'
theorem Xp{n:Nat}{fn:CQ}{args:List PV}{r:PV×Sto}(ho:El (fn.ntmps+fn.extra) fn.code=true)(h:Ij pur call n fn args σ=some r):YU pur call n fn args σ=some r:=by
 unfold Ij at h;cases hb:(Nat.beq args.length fn.nargs&&Nat.ble args.length fn.ntmps) with
 |false=>rw[hb] at h;cases h
 |true=>
  rw[hb] at h;simp only[Ak] at hb;have h1:args.length=fn.nargs:=AV hb.1;have h2:args.length≤fn.ntmps:=DN hb.2;unfold YU;rw[if_pos ⟨h1,h2⟩]
  have hrel:Rel (fn.ntmps+fn.extra) (I5 args 0) (args.map some++List.replicate (fn.ntmps+fn.extra - args.length) none):=by
   refine⟨by simp;omega,fun t v hv=>?_⟩
   obtain⟨_,hv⟩:=Oe args 0 t v hv;rw[Nat.sub_zero] at hv;have hlt:=(Ab.1 hv).1;unfold Frm.get;rw[Ae (by simpa using hlt),Af,hv];rfl
  cases hx:EI pur call n fn.code (I5 args 0) σ with
  |none=>rw[hx] at h;cases h
  |some x=>
   obtain⟨e,ff',σ'⟩:=x;rw[hx] at h;obtain⟨A',h3,h4⟩:=Oo fn.code _ _ _ _ _ _ ho hrel hx;rw[h3]
   have fin:((Gm ff' fn.results).bind fun vs=>(Fg vs).map fun x=>(x,σ'))=some r→((Fs A' fn.results).bind fun vs=>(Fg vs).map fun x=>(x,σ'))=some r:=by
    intro hh;obtain⟨vs,hv,hp⟩:=AP.1 hh;rw[Qi h4 _ _ hv];exact hp
   cases e with
   |normal=>exact fin h
   |exit i=>cases h
   |ret=>exact fin h
def pI(P:Program)(pur:FuncId→Bool)(tab:FuncId→Option CQ):Prop:=
 ∀f af,tab f=some af→∃fn fi,P.funcs[f]?=some fn∧(fn.name == "runtime.NumGoroutine")=false∧F6 P pur fi fn=some af∧El (af.ntmps+af.extra) af.code=true
def Gp(P:Program)(f:FuncId)(g:HV):Prop:=
 ∀call,EX P call→∀args σ r σ',(∀p∈args,p.Ag=p)→g call args σ=some (r,σ')→Jc P f args σ r σ'
theorem Ie{prim:FuncId→Option HV}{tab:FuncId→Option CQ}(hmo:P.follows .mixedOrders=true)(htab:pI P pur tab)(hprim:∀f g,prim f=some g→Gp P f g):∀n,EX P (Mf pur prim tab n)
 |0=>by intro f args σ r σ' _ h;cases h
 |n+1=>by
  intro f args σ r σ' hown h;have hS:=Ie hmo htab hprim n;have h':Option.rec (motive:=fun _=>Option (PV×Sto)) (Option.rec (motive:=fun _=>Option (PV×Sto)) none (fun fn=>Ij pur (Mf pur prim tab n) n fn args σ) (tab f)) (fun g=>g (Mf pur prim tab n) args σ) (prim f)=some (r,σ'):=h
  cases hp:prim f with
  |some g=>
   rw[hp] at h';exact hprim f g hp _ hS args σ r σ' hown h'
  |none=>
   rw[hp] at h';dsimp only at h';cases ht:tab f with
   |none=>rw[ht] at h';cases h'
   |some af=>
    rw[ht] at h';obtain⟨fn,fi,h1,h2,h3,h4⟩:=htab f af ht;exact jr hmo h1 h2 h3 hS hown (Xp h4 h')
end
end Go.Abs

namespace Go.Abs.Z
abbrev pL:SK:=.plain
abbrev iM:SK:=.imm
def kS:Nat→Nat→List SK
 |0,_=>[]
 |l+1,n=>(match n % 4 with | 0=>.plain | 1=>.imm | 2=>.box | _=>.obj)::kS l (n / 4)
def bS:Nat→Nat→List Bool
 |0,_=>[]
 |l+1,n=>Nat.beq (n % 2) 1::bS l (n / 2)
def fI(l k m nt:Nat)(md:List (Nat×Nat×Nat))(al:List (Nat×Nat):=[])(ps:List (Nat×Nat×Nat):=[])(bt:Option (Nat×Nat):=none):FI:={ kd:=kS l k,al:=al,keep:=bif Nat.beq m 0 then[] else bS nt m,nt:=nt,ps:=ps,bt:=bt,md:=md }
def pur(f:FuncId):Bool:=!([3,4,5,6,7,8,9,10,12,13,14,15,16,17,18,19,20,21,22,23,24,25,26,27,28,29,30,31,32,34,35,38,42,43,44,45,46,47,48,49,50,51,52,53,54,55,57,58,62,63,64,65,66,67,68,69,70,71,72,73,74,76,77,78,81,83,84,85,86,87,88,89,90,93,94,96,97,102,104,106,107,108,109,110,111,112,113,114,115,116,117,118,119,120,121,123,124,126,127,129,130,132,133,134,135,136,137,138,139,140,141,142,144,146,147,148,149,150,155,156,157,158,159,160,161,162,163,164,165,169,170,171,172,174,175,176,177,178,179,180,181,183,184,186,187,188,190,192,193,199,200,201,202,203,204,218,219,220,221,222,223,224,225,226,227,228,230,231,241,242,243,244,245,246,247,252,253,254,256,268,269,270,271,272,273,274,276,280,282,283,284,287,290,293,298,300]:List Nat).contains f
def fi3:=fI 5 768 0 61 []
def fi4:=fI 16 0x400000c0 0xffffe00000e0e0000000000000000000014186 154 [(17,5,1),(12,5,8)]
def fi5:=fI 2 4 0 104 [(1,5,8)]
def fi6:=fI 3 48 0 8 []
def fi7:=fI 25 0x1000000400300 0x3860000000003eb002 111 [(10,1,7),(10,4,8),(10,3,7),(10,5,8),(1,3,8),(22,11,8)]
def fi8:=fI 5 768 0x7f80007f80000000001fe03fc0000000000000cf81e 178 [(4,1,7),(4,4,8),(4,3,7),(4,5,8)]
def fi9:=fI 0 0 0 8 []
def zO:=fI 2 12 0 5 []
def zF:=fI 3 16 38 24 []
def AvH:=fI 0 0 0 16 []
def AvG:=fI 0 0 0 8 [(3,0,5),(3,2,1)]
def AvF:=fI 4 108 62 58 [(10,12,1),(1,6,8)]
def AvE:=fI 0 0 0 11 []
def AvD:=fI 0 0 12291 26 []
def AvC:=fI 0 0 57 61 []
def ym:=fI 0 0 389 30 []
def AvB:=fI 5 288 0 25 [(3,7,8)]
def AvA:=fI 3 48 0 19 []
def Av9:=fI 16 0x44000030 0x7c0000070e000003e40 101 [(14,8,1),(16,8,1),(6,2,7),(6,6,8),(6,5,7),(6,7,8),(9,5,8),(12,5,8)]
def Av8:=fI 13 0x1000030 0x700000640 65 [(5,2,7),(5,6,8),(5,5,7),(5,7,8),(8,5,8)]
def Av7:=fI 3 48 0 19 []
def Av6:=fI 0 0 12291 26 []
def wN:=fI 3 48 38 26 []
def wG:=fI 6 1036 0x1ff800e0e0018 63 [(12,8,1),(6,5,8)]
def wB:=fI 10 0x40000 0xe0040 37 [(7,6,8)]
def wu:=fI 0 0 0 10 []
def wh:=fI 0 0 0 8 []
def vW:=fI 0 0 35 22 []
def vU:=fI 8 40960 711 33 [] [(30,7)]
def vT:=fI 0 0 1545 22 []
def vS:=fI 0 0 35 19 []
def vR:=fI 0 0 99 53 []
def vQ:=fI 2 12 0x3ff800000000003a 63 []
def vP:=fI 0 0 0x1fff9f0009 38 []
def Av5:=fI 0 0 0 8 []
def Av4:=fI 0 0 0x7ff00c800000000000030f 134 []
def Av3:=fI 0 0 0 8 []
def vO:=fI 0 0 35 18 []
def vN:=fI 0 0 0xfc0063 45 []
def Av2:=fI 6 1056 0 29 [(1,7,8)]
def Av1:=fI 6 1024 0x70718 31 [(8,5,1),(4,5,8)]
def Av0:=fI 26 0xc000000001030 0 26 [(1,7,8)]
def AkZ:=fI 13 0x1109000 0x70000003000000e00000099 148 [(14,4,1),(22,4,1),(9,3,6),(29,2,9),(29,3,1),(5,3,8),(20,5,8),(8,5,8)] [(64,7),(69,7),(71,7),(75,7),(97,7),(102,7)]
def AkY:=fI 0 0 0 9 []
def vM:=fI 5 268 0xe000002 36 [(5,3,8)]
def vL:=fI 5 544 0xffe60395 45 [] [(36,4),(42,4)]
def Iq:=fI 0 0 41 25 [(6,3,1)]
def AkX:=fI 0 0 0x3ff000c7 49 []
def AkW:=fI 0 0 1985 56 []
def AkV:=fI 8 16384 963 65 [(2,3,8)]
def AkU:=fI 10 0xc0000 0 57 []
def AkT:=fI 0 0 193 32 []
def AkS:=fI 0 0 0xffe00787 133 []
def AkR:=fI 0 0 0 17 []
def AkQ:=fI 0 0 0x7fc07fe00000603 84 []
def AkP:=fI 0 0 0x1ff80ff80000000000ffc07fc00000c03 168 []
def AkO:=fI 0 0 0 19 []
def AkN:=fI 0 0 0 25 []
def AkM:=fI 3 32 0 10 []
def AkL:=fI 36 0xc0011010400000102c 0xe000000000000e000000fe7e78070000000000e0000000000004121aa6 262 [(17,15,9),(17,16,1),(25,15,9),(25,16,1),(35,5,1),(5,7,8),(23,3,8),(30,3,8),(39,4,8),(44,3,8)]
def AkK:=fI 58 0xc0000000000000000000000040230 0 88 [(8,2,9),(8,2,9),(11,11,9),(5,8,8)]
def AkJ:=fI 7 8960 0 22 []
def AkI:=fI 8 25344 0 45 [(1,5,8)]
def AkH:=fI 7 8960 0 13 []
def AkG:=fI 6 3072 29221 34 [(5,12,1)]
def AkF:=fI 8 16896 0 30 [(2,11,8)]
def AkE:=fI 0 0 0 8 [(3,0,5),(3,2,1)]
def AkD:=fI 0 0 387 19 []
def vK:=fI 0 0 0 9 []
def vJ:=fI 0 0 0 13 []
def AkC:=fI 0 0 0xfffc0010d 76 []
def AkB:=fI 0 0 0 7 []
def AkA:=fI 0 0 0 33 []
def Ak9:=fI 0 0 0 15 []
def Ak8:=fI 0 0 0 36 []
def Ak7:=fI 0 0 0 6 []
def Ak6:=fI 12 0x500200 0 48 [(7,11,1),(8,0,3)]
def Ak5:=fI 4 172 14 46 [] [(15,3),(22,3),(27,3),(33,3),(38,3),(44,3)]
def Ak4:=fI 2 4 0 10 []
def Ak3:=fI 9 74496 0xe0000045 81 [(2,6,9),(2,7,1),(6,8,1),(10,11,1),(5,3,8)] [(35,6),(44,6),(77,6)]
def Ak2:=fI 9 65580 0x1c0064 40 [(8,3,9),(8,4,1),(7,3,8)]
def Ak1:=fI 8 20480 0x38000001ff9c001c000038005 113 [(12,17,6),(12,19,1),(9,3,8),(10,8,8)]
def Ak0:=fI 22 0xc000000010c 0 29 [(1,7,8)]
def AjZ:=fI 21 0x20000110030 0x70006003fe003800001c018000000000780001c0007000019b986 222 [(12,8,6),(12,11,1),(14,15,1),(15,15,1),(30,3,1),(30,8,6),(30,9,1),(46,2,9),(46,3,1),(4,6,8),(7,5,8)]
def AjY:=fI 12 0xd44000 0x380000000070c87 72 [(6,14,1),(6,23,1),(1,3,8),(4,3,8),(8,3,8)]
def AjX:=fI 0 0 0 9 []
def AjW:FI:={ kd:=[.plain,.mapb [.i .i64 3,.i .i64 5,.i .i64 6,.i .i64 8,.i .i64 10,.i .i64 26,.i .i64 13,.i .i64 17,.i .i64 19,.i .i64 27],.plain,.ent 1 (.i .i64 3),.ent 1 (.i .i64 5),.ent 1 (.i .i64 6),.ent 1 (.i .i64 8),.ent 1 (.i .i64 10),.ent 1 (.i .i64 26),.ent 1 (.i .i64 13),.ent 1 (.i .i64 17),.ent 1 (.i .i64 19),.ent 1 (.i .i64 27)],al:=[],keep:=[],nt:=3,ps:=[(1,1,3),(1,2,4),(1,3,5),(1,4,6),(1,5,7),(1,6,8),(1,7,9),(1,8,10),(1,9,11),(1,10,12)],bt:=none,md:=[] }
def AjV:=fI 0 0 0 9 []
def AjU:=fI 23 0x240049040a00 0x1c00000000000780380000000000f3c03800000000f3 235 [(10,26,1),(21,3,6),(22,3,6),(25,4,1),(25,9,1),(34,3,9),(34,4,1),(6,3,8),(14,3,8),(19,8,8),(30,8,8)] [(154,5),(159,5),(164,5),(165,5),(209,5),(214,22),(216,5),(225,22),(226,22),(227,5),(232,5)]
def AjT:=fI 8 49152 0 13 []
def AjS:=fI 6 1028 904 20 []
def AjR:=fI 9 65568 0x3800046 45 [] [(22,2)]
def zN:=fI 5 544 0x3e0714 31 [] [(18,2),(24,2)]
def zM:=fI 9 65600 0x1c002 26 []
def zL:=fI 13 0x1000c00 0x7000000d 41 [(7,3,8)]
def zK:FI:={ kd:=[.plain,.mapb [.i .i64 12,.i .i64 13,.i .i64 19,.i .i64 18,.i .i64 17,.i .i64 14,.i .i64 15,.i .i64 16],.plain,.ent 1 (.i .i64 12),.ent 1 (.i .i64 13),.ent 1 (.i .i64 19),.ent 1 (.i .i64 18),.ent 1 (.i .i64 17),.ent 1 (.i .i64 14),.ent 1 (.i .i64 15),.ent 1 (.i .i64 16)],al:=[],keep:=[],nt:=3,ps:=[(1,1,3),(1,2,4),(1,3,5),(1,4,6),(1,5,7),(1,6,8),(1,7,9),(1,8,10)],bt:=none,md:=[] }
def zJ:=fI 6 3072 557 31 []
def zI:=fI 9 65600 0x1c002 26 []
def zH:=fI 11 0x100300 0xe0000095 47 [(5,3,1),(9,8,1),(8,5,8)]
def zG:=fI 0 0 0 7 []
def pu:=fI 0 0 387 19 []
def zD:=fI 0 0 0 28 []
def zC:=fI 26 0xc000000100000 0x1c000181 83 [(22,8,1)]
def zB:=fI 5 512 0 24 []
def zA:=fI 0 0 0 14 [(1,5,1),(3,0,2)]
def zz:=fI 0 0 0 10 []
def zy:=fI 6 1024 0 23 []
def zx:=fI 9 86048 0 33 []
def zw:=fI 7 5700 0 49 []
def EW:=fI 19 0x300000100c 0xe10000380070000030041a 105 [(4,6,1),(17,7,6),(25,4,6),(11,5,8)]
def zu:=fI 5 512 0 26 []
def zt:=fI 10 0x52404 0x70038048 58 [] [(42,6),(50,6)]
def zq:=fI 17 0x1241150c0 0x1c0000000000000700000000000000000000000000000000000000000000000000000000000000000079 340 [(4,4,8),(4,5,8),(35,7,8),(43,7,8),(57,5,8),(72,3,8)]
def zo:=fI 0 0 0 11 []
def zn:=fI 2 4 0 40 []
def zm:=fI 13 0x1000030 0x1c0000700c04a6 78 [(21,4,1),(18,3,8)]
def zk:=fI 19 0x1200000030 0xffc00070000000fc001ff8060001e3c6 149 [(13,3,1),(28,4,1),(30,3,1),(24,3,8)] [(118,16),(124,16),(132,16),(136,16)]
def zh:=fI 4 192 0 20 []
def zg:=fI 4 192 0 13 []
def zf:=fI 4 192 0 24 []
def ze:=fI 5 704 0 37 [] [(15,4),(16,4),(23,4),(31,4)]
def zb:=fI 0 0 455 63 []
def za:=fI 7 8720 0 48 [] [(36,6),(41,6)]
def y9:=fI 10 0x40000 28865 38 [(4,5,8)]
def y8:=fI 4 132 0 10 []
def yY:=fI 0 0 0 7 []
def yX:=fI 0 0 0 7 []
def yV:=fI 14 0x4000f00 0 120 [(1,5,6),(9,5,8)]
def yU:=fI 0 0 49 41 []
def yT:=fI 0 0 0x1c00010 36 []
def yS:=fI 0 0 0 9 []
def yR:=fI 4 64 0 14 []
def yQ:=fI 0 0 0 12 []
def yP:=fI 0 0 0 11 []
def yO:=fI 0 0 0 9 []
def yN:=fI 0 0 35 17 []
def yM:=fI 14 0xa000000 0 52 [] [(38,13),(39,13),(43,13),(50,13)]
def yJ:=fI 3 32 0 28 []
def yI:=fI 3 32 0 57 []
def yH:=fI 3 32 0xe00003d 41 []
def yG:=fI 4 64 0 22 [(2,8,3)]
def yF:FI:={ kd:=[.plain,.imm,.plain,.plain,.plain,.imm,.plain,.plain,.plain,.plain,.plain,.mapb [.i .i64 0,.i .i64 2,.i .i64 3,.i .i64 4,.i .i64 5,.i .i64 6,.i .i64 7,.i .i64 8,.i .i64 9,.i .i64 10,.i .i64 11,.i .i64 12,.i .i64 13,.i .i64 14,.i .i64 15,.i .i64 16,.i .i64 17,.i .i64 18,.i .i64 19,.i .i64 20,.i .i64 21,.i .i64 22,.i .i64 23,.i .i64 24,.i .i64 25,.i .i64 26,.i .i64 27,.i .i64 28,.i .i64 29],.plain,.plain,.plain,.plain,.plain,.plain,.plain,.plain,.plain,.plain,.plain,.plain,.plain,.plain,.plain,.plain,.plain,.plain,.plain,.plain,.plain,.plain,.plain,.plain,.plain,.plain,.plain,.plain,.plain,.plain,.plain,.plain,.plain,.plain,.plain,.plain,.plain,.plain,.plain,.plain,.plain,.plain,.plain,.plain,.plain,.plain,.plain,.plain,.plain,.plain,.plain,.plain,.plain,.plain,.plain,.plain,.plain,.plain,.plain,.plain,.plain,.plain,.plain,.plain,.plain,.plain,.plain,.plain,.plain,.plain,.plain,.plain,.plain,.plain,.plain,.plain,.plain,.plain,.plain,.plain,.plain,.plain,.plain,.plain,.plain,.plain,.plain,.plain,.plain,.plain,.plain,.plain,.plain,.plain,.plain,.plain,.plain,.plain,.plain,.plain,.plain,.plain,.plain,.plain,.plain,.plain,.plain,.ent 11 (.i .i64 0),.ent 11 (.i .i64 2),.ent 11 (.i .i64 3),.ent 11 (.i .i64 4),.ent 11 (.i .i64 5),.ent 11 (.i .i64 6),.ent 11 (.i .i64 7),.ent 11 (.i .i64 8),.ent 11 (.i .i64 9),.ent 11 (.i .i64 10),.ent 11 (.i .i64 11),.ent 11 (.i .i64 12),.ent 11 (.i .i64 13),.ent 11 (.i .i64 14),.ent 11 (.i .i64 15),.ent 11 (.i .i64 16),.ent 11 (.i .i64 17),.ent 11 (.i .i64 18),.ent 11 (.i .i64 19),.ent 11 (.i .i64 20),.ent 11 (.i .i64 21),.ent 11 (.i .i64 22),.ent 11 (.i .i64 23),.ent 11 (.i .i64 24),.ent 11 (.i .i64 25),.ent 11 (.i .i64 26),.ent 11 (.i .i64 27),.ent 11 (.i .i64 28),.ent 11 (.i .i64 29)],al:=[],keep:=[],nt:=119,ps:=[(4,2,119),(4,6,120),(4,11,121),(4,17,122),(4,25,123),(4,29,124),(4,34,125),(4,39,126),(4,42,127),(4,44,128),(4,46,129),(4,52,130),(4,56,131),(4,64,132),(4,69,133),(4,76,134),(4,81,135),(4,85,136),(4,89,137),(4,92,138),(4,98,139),(4,104,140),(4,109,141),(4,111,142),(4,115,143),(4,118,144),(4,122,145),(4,128,146),(4,135,147)],bt:=none,md:=[] }
def yE:=fI 2 4 0 4 []
def yD:=fI 7 4176 0x1c0000000004 64 []
def yC:=fI 11 0x1040c0 0xe0000071b1 65 [(5,3,8),(11,3,8)]
def yB:=fI 6 3840 0x800000000000000000000000000000004 250 [(5,6,6),(12,9,6),(41,6,6),(46,11,6),(49,11,6)]
def yA:=fI 0 0 0 9 []
def yz:=fI 9 65552 28768 28 []
def yx:=fI 7 7168 0 23 [(1,10,8)]
def yw:=fI 8 49152 0 24 [(1,13,1)]
def yu:=fI 8 61440 0 24 [(1,13,1)]
def yo:=fI 5 512 0 26 []
def yl:=fI 12 0x85cf00 0 63 [(1,4,8),(1,5,8)]
def yj:=fI 4 192 0xfff80e00a 39 [(1,3,6)]
def yh:=fI 8 16576 0x1c028 31 [(4,3,8)]
def yg:=fI 7 13360 0 15 [(5,2,6),(1,2,8)]
def yf:=fI 2 4 0 9 []
def yc:=fI 6 1024 0 19 [(1,7,8)]
def x9:=fI 0 0 0x3ffc0030f 53 []
def x8:=fI 6 1040 0 22 []
def xZ:=fI 0 0 0 8 [(3,0,5),(3,2,1)]
def xY:=fI 3 16 0 10 []
def xX:=fI 0 0 0 41 [(0,5,6),(3,8,9),(3,9,1)]
def xW:=fI 0 0 0 13 []
def xV:=fI 0 0 3 26 []
def xU:=fI 0 0 0x3cf9f3cf800000000101 82 []
def xS:=fI 0 0 0x1f007 21 []
def xR:=fI 0 0 0 9 []
def xQ:=fI 0 0 387 19 []
def xP:=fI 0 0 0 12 []
def xO:=fI 8 16416 0 27 []
def xN:=fI 3 32 0 14 []
def xM:=fI 0 0 0 10 []
def xL:=fI 7 5152 0x39c03ff800000000000000185 103 []
def xK:=fI 0 0 0 25 []
def xJ:=fI 2 4 0 4 []
def xI:=fI 0 0 0 9 []
def xH:=fI 2 4 0 4 []
def xG:=fI 0 0 0 9 []
def xE:=fI 2 4 0 4 []
def xD:=fI 0 0 0 5 []
def xC:=fI 0 0 0 13 []
def xB:=fI 0 0 0 20 []
def xA:=fI 0 0 0 9 []
def xz:=fI 0 0 0 13 []
def xy:=fI 0 0 0 19 [(0,2,6)]
def Fj:=fI 0 0 0x40018 30 [(8,3,1)]
def xx:=fI 12 0x400000 0x7002c 28 [(2,3,8)]
def xw:=fI 9 0x30000 0 49 [(7,12,1)]
def xu:=fI 7 12288 0 7 []
def xq:=fI 9 0x30000 0 47 [(2,6,6)]
def xn:=fI 0 0 0 29 [(3,5,6)]
def xm:=fI 8 49152 0 23 []
def xk:=fI 0 0 455 63 []
def xh:=fI 5 768 0 25 []
def xg:=fI 4 80 0 28 []
def xe:=fI 0 0 57356 29 [(3,2,6)]
def xc:FI:={ kd:=[.plain,.plain,.plain,.mapb [.i .i64 1,.i .i64 2,.i .i64 3,.i .i64 4],.plain,.plain,.plain,.plain,.plain,.plain,.plain,.plain,.plain,.ent 3 (.i .i64 1),.ent 3 (.i .i64 2),.ent 3 (.i .i64 3),.ent 3 (.i .i64 4)],al:=[],keep:=[],nt:=13,ps:=[(3,4,13),(3,8,14),(3,10,15),(3,12,16)],bt:=none,md:=[] }
def w9:=fI 8 16384 1825 30 []
def wY:=fI 0 0 0 17 []
def wX:=fI 0 0 0 9 []
def wW:=fI 0 0 0 13 []
def wV:=fI 0 0 0 6 []
def wU:=fI 0 0 0x700000000003 56 []
def wT:=fI 0 0 0 13 []
def wS:=fI 8 20512 0 33 []
def wR:=fI 3 32 0 8 []
def wQ:=fI 9 81952 0 43 []
def wP:=fI 0 0 0 13 []
def wO:=fI 0 0 0 7 []
def wM:=fI 0 0 0 11 []
def wL:=fI 0 0 0 7 []
def wJ:=fI 0 0 0x3ffc0030f 53 []
def wI:=fI 3 16 0 13 []
def wH:=fI 3 16 0 9 []
def wF:FI:={ kd:=[.plain,.mapb [.s [114,101,99,111,114,100],.s [112,114,111,99],.s [118,97,114],.s [105,102],.s [101,108,115,101],.s [119,104,105,108,101],.s [102,111,114],.s [116,111],.s [114,101,116,117,114,110],.s [97,115,115,101,114,116],.s [97,110,100],.s [111,114],.s [110,111,116],.s [116,114,117,101],.s [102,97,108,115,101],.s [105,110,116],.s [98,111,111,108],.s [108,101,110]],.plain,.ent 1 (.s [114,101,99,111,114,100]),.ent 1 (.s [112,114,111,99]),.ent 1 (.s [118,97,114]),.ent 1 (.s [105,102]),.ent 1 (.s [101,108,115,101]),.ent 1 (.s [119,104,105,108,101]),.ent 1 (.s [102,111,114]),.ent 1 (.s [116,111]),.ent 1 (.s [114,101,116,117,114,110]),.ent 1 (.s [97,115,115,101,114,116]),.ent 1 (.s [97,110,100]),.ent 1 (.s [111,114]),.ent 1 (.s [110,111,116]),.ent 1 (.s [116,114,117,101]),.ent 1 (.s [102,97,108,115,101]),.ent 1 (.s [105,110,116]),.ent 1 (.s [98,111,111,108]),.ent 1 (.s [108,101,110])],al:=[],keep:=[],nt:=3,ps:=[(1,1,3),(1,2,4),(1,3,5),(1,4,6),(1,5,7),(1,6,8),(1,7,9),(1,8,10),(1,9,11),(1,10,12),(1,11,13),(1,12,14),(1,13,15),(1,14,16),(1,15,17),(1,16,18),(1,17,19),(1,18,20)],bt:=none,md:=[] }
def wE:=fI 6 1024 0 37 []
def wD:=fI 12 0x482000 967 35 []
def wC:=fI 3 32 0 8 []
def wz:=fI 6 1024 0 18 []
def wy:=fI 7 5152 0 42 []
def ww:=fI 0 0 7683 17 []
def wo:=fI 9 70688 0 42 []
def wm:=fI 3 32 0 18 []
def vZ:=fI 3 32 0 8 []
def vY:=fI 3 32 0 8 []
def vX:=fI 6 1056 0 23 []
def vV:=fI 12 0x500020 0 101 []
end Go.Abs.Z

namespace Go.Abs.Z
open Go.Proofs
def tL(f:FuncId)(af:CQ):Prop:=∃fn fi,Tryz.prog.funcs[f]?=some fn∧(fn.name == "runtime.NumGoroutine")=false∧F6 Tryz.prog pur fi fn=some af∧El (af.ntmps+af.extra) af.code=true
end Go.Abs.Z

namespace Go.Abs.Z
noncomputable section
open Go.Proofs
def cA(f:FuncId)(fi:FI):CQ:=match Tryz.prog.funcs[f]? with
 |some fn=>match F6 Tryz.prog pur fi fn with
  |some af=>af
  |none=>⟨0,0,0,[],.skip⟩
 |none=>⟨0,0,0,[],.skip⟩
def chk(f:FuncId)(fi:FI):Bool:=match Tryz.prog.funcs[f]? with
 |some fn=>!(fn.name == "runtime.NumGoroutine")&&(match F6 Tryz.prog pur fi fn with
  |some af=>El (af.ntmps+af.extra) af.code
  |none=>false)
 |none=>false
theorem su{f:FuncId}{fi:FI}(h:chk f fi=true):tL f (cA f fi):=by
 unfold chk at h;unfold cA
 split at h
 ·rename_i fn hf;rw[Ak] at h;obtain⟨h1,h2⟩:=h
  split at h2
  ·rename_i af hc;exact⟨fn,fi,hf,by simpa using h1,hc,h2⟩
  ·cases h2
 ·cases h
def a30:CQ:=cA 30 vW
def a31:CQ:=cA 31 vU
def a29:CQ:=cA 29 wh
def a48:CQ:=cA 48 vL
def a28:CQ:=cA 28 wu
def a72:CQ:=cA 72 vK
def a73:CQ:=cA 73 vJ
def U0:CQ:=cA 110 pu
def a27:CQ:=cA 27 wB
def a32:CQ:=cA 32 vT
def a7:CQ:=cA 7 fi7
def a26:CQ:=cA 26 wG
def a47:CQ:=cA 47 vM
def a3:CQ:=cA 3 fi3
def a6:CQ:=cA 6 fi6
def a8:CQ:=cA 8 fi8
def a9:CQ:=cA 9 fi9
def a10:CQ:=cA 10 zO
def a11:CQ:=cA 11 zF
def a18:CQ:=cA 18 ym
def a25:CQ:=cA 25 wN
def a33:CQ:=cA 33 vS
def a34:CQ:=cA 34 vR
def a35:CQ:=cA 35 vQ
def a36:CQ:=cA 36 vP
def a40:CQ:=cA 40 vO
def a41:CQ:=cA 41 vN
end
end Go.Abs.Z
