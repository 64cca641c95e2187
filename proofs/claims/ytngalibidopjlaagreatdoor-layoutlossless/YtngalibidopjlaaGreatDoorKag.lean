/- A part of the proof: A29 A30 A31 A32 A33 T. -/
import Derived.Test.YtngalibidopjlaaGreatDoorKaf

set_option linter.unusedVariables false
set_option linter.unusedSimpArgs false
namespace Go.Abs
open Go.RowKit
section
variable{P:Program}{pur:FuncId→Bool}{call:Caller}{fi:FI}{cx:Cx}{G:Gh}{a:Act}{w:World}{A A':Frm}{σ σ':Sto}{rg:RG}{o:Oper}{ao:AOp}{ops:Array Oper}
theorem mk_dst{d:Option Nat}{k:AK}{args:Option (List AArg)}{ex:List Nat}(h:mk fi d k args ex=some ao):ao.dst=d:=by
 obtain⟨as,_,rfl,_⟩:=mk_some h;rfl
theorem compOp_dst(h:AqE P pur fi rg o=some ao):ao.dst=o.dst:=by
 unfold AqE at h;dsimp only at h
 repeat' (split at h)
 all_goals first
  |(cases h;done)
  |exact mk_dst h
  |(cases h;rfl)
  |(cases h;simp_all;done)
  |(obtain⟨_,_,rfl⟩:=Option.map_eq_some_iff.1 h;rfl)
  |(obtain⟨_,_,rfl⟩:=Option.map_eq_some_iff.1 h;simp_all;done)
theorem AJ2(h:AQU P pur fi rg o=some ao):ao.dst=o.dst:=by
 unfold AQU at h
 split at h
 ·rename_i a hc;cases h;exact compOp_dst hc
 ·cases h;rfl
theorem op_soundN{ro:Option Nat}{n:Nat}{K:Act→World→Prop}{Q:Exit→Act→World→Prop}(hS:Sound P call)(hi:Inv cx G a w A σ)(hx:CxOk cx fi)(hc:AQU P pur fi rg o=some ao)
  (hrun:runA pur call ao A σ=some (A',σ')) (hk:∀a' w',Sim cx a' w' A' σ'→Kept o.dst a a'→K a' w'):o.wpIn (FW ro) n P a w K Q:=by
 unfold AQU at hc
 split at hc
 ·rename_i a' hc';cases hc;exact op_sound hS hi hx hc' hrun hk
 ·cases hc;obtain⟨vs,rs,_,hs,_⟩:=runK hrun;cases vs<;>simp[sem,semP] at hs
def OpOk(P:Program)(pur:FuncId→Bool)(fi:FI)(ops:Array Oper)(o:Oper)(ao:AOp):Prop:=
 ∃rg a,AQU P pur fi rg o=some a∧Av4 fi ops o.guard=some ao.guard∧ao={ a with guard:=ao.guard }∧(ao.guard.isSome=true→a.ex=[]∧a.clr=[]∧Aq7 fi a.dst=true)
theorem AQ0{id:Nat}{rg:RG}:∀(l:List Oper) (j:Nat) (as:List AOp),AXN P pur fi id rg ops j l=some as→
  as.length=l.length∧∀(i:Nat) (o:Oper) (ao:AOp),l[i]?=some o→as[i]?=some ao→OpOk P pur fi ops o ao
 |[],j,as,h=>by cases h;exact⟨rfl,fun i o ao h=>by simp at h⟩
 |o::l,j,as,h=>by
  simp only[AXN] at h
  split at h
  ·rename_i a g as' h1 h2 h3
   split at h
   ·cases h
   ·rename_i hc;cases h;obtain⟨hl,hr⟩:=AQ0 l (j+1) as' h3;refine⟨by simp[hl],fun i o' ao' ho ha=>?_⟩
    cases i with
    |zero=>
     simp at ho ha;subst ho ha;refine⟨_,a,h1,h2,rfl,fun hg=>?_⟩
     have hc':¬(a.ex≠[]∨a.clr≠[]∨Aq7 fi a.dst=false):=fun h=>hc ⟨hg,h⟩
     simp only[not_or,ne_eq,Classical.not_not,Bool.not_eq_false] at hc';exact hc'
    |succ i=>exact hr i o' ao' (by simpa using ho) (by simpa using ha)
  ·cases h
theorem wanted_of(hi:Inv cx G a w A σ)(hx:CxOk cx fi){g:Option (Nat×Bool)}(hg:Av4 fi ops o.guard=some g){b:Bool}(hw:AzT A g=some b):Region.wanted o (yielded ops a.tmps)=b:=by
 unfold Region.wanted;cases hgu:o.guard with
 |none=>
  rw[hgu] at hg;simp only[Av4] at hg;cases hg;simp only[AzT] at hw;cases hw;rfl
 |some jb=>
  obtain⟨j,want⟩:=jb;rw[hgu] at hg;simp only[Av4] at hg
  split at hg
  ·rename_i t ht
   split at hg
   ·rename_i hp;cases hg;have hpl:=AxN hx.kd hx.nt hp;have hlt:t<a.tmps.size:=by rw[hi.size];exact hpl.1
    have hat:a.tmps[t]?=some (at' a t):=by simp[at',Array.getD,hlt]
    simp only[AzT] at hw
    split at hw
    ·rename_i c hc;cases hw;have hv:=((Aq9 hpl.2 rfl).1 (hi.slot t _ hc)).1.AzM;simp only[yielded,ht,Option.bind_some,hat,hv];cases c<;>cases want<;>rfl
    ·rename_i hc;cases hw;obtain⟨cs,hv,_⟩:=((Aq9 hpl.2 rfl).1 (hi.slot t _ hc)).1.tuple_inv;simp only[yielded,ht,Option.bind_some,hat,hv];rfl
    ·cases hw
   ·cases hg
  ·cases hg
theorem undef_rep{I:Imm}{bl:Bl}:RepT I bl w undef AkN:=by
 refine .tuple (cs:=#[]) rfl fun i p h=>by simp at h
theorem exec_sound{ro:Option Nat}{n:Nat}{K:Act→World→Prop}{Q:Exit→Act→World→Prop}(hS:Sound P call)(hx:CxOk cx fi){i:Nat}(ho:ops[i]?=some o)(hok:OpOk P pur fi ops o ao)(hsim:Sim cx a w A σ)
  (hex:execA pur call ao A σ=some (A',σ')) (hk:∀a' w',Sim cx a' w' A' σ'→Kept o.dst a a'→K a' w'):wpOpIn (FW ro) n P ops Q i K a w:=by
 obtain⟨G,hi⟩:=hsim;obtain⟨rg,a0,hc,hg,he,hpl⟩:=hok;unfold wpOpIn;rw[ho];dsimp only;unfold execA at hex
 split at hex
 ·rename_i hw;rw[wanted_of hi hx hg hw,if_pos rfl];refine op_soundN hS hi hx hc (pur:=pur) (A':=A') (σ':=σ') ?_ hk
  rw[he] at hex;exact hex
 ·rename_i hw;rw[wanted_of hi hx hg hw,if_neg (by simp)]
  refine⟨fun _ _=>trivial,hk _ _ ⟨G,?_⟩ (AwP _ _ _)⟩
  have hgs:ao.guard.isSome=true:=by
   cases hgg:ao.guard with
   |none=>rw[hgg] at hw;simp[AzT] at hw
   |some _=>rfl
  obtain⟨h1,h2,h3⟩:=hpl hgs
  split at hex
  ·cases hex
   have hdst:ao.dst=o.dst:=by
    have:=AJ2 hc;rw[he];exact this
   have hex0:ao.ex=[]:=by rw[he];exact h1
   have hcl0:ao.clr=[]:=by rw[he];exact h2
   have hpd:Aq7 fi o.dst=true:=by rw[←AJ2 hc];exact h3
   have hA:AqO A ao.wr [some AkN]=setO A o.dst AkN:=by
    simp only[AOp.wr,hex0,hcl0,hdst,List.append_nil];cases o.dst<;>rfl
   rw[hA];exact hi.put1 (Ext.refl _ _ _) hi.base rfl o.dst (AqV hx.kd hx.nt hpd) rfl undef_rep (fun _ _=>trivial)
  ·cases hex
 ·cases hex
theorem exec_len(h:execA pur call ao A σ=some (A',σ')):A'.length=A.length:=by
 unfold execA at h
 split at h
 ·unfold runA at h
  split at h
  ·split at h
   ·split at h
    ·cases h;exact AqU ..
    ·split at h
     ·cases h;rfl
     ·cases h
   ·cases h
  ·cases h
 ·split at h
  ·cases h;exact AqU ..
  ·cases h
 ·cases h
theorem AZX:∀(as:List AOp) {A A':Frm} {σ σ':Sto},AjD pur call as A σ=some (A',σ')→A'.length=A.length
 |[],A,A',σ,σ',h=>by cases h;rfl
 |ao::as,A,A',σ,σ',h=>by
  simp only[AjD] at h
  split at h
  ·rename_i A1 σ1 h1;rw[AZX as h,exec_len h1]
  ·cases h
theorem ops_sound{ro:Option Nat}{n:Nat}{Q:Exit→Act→World→Prop}(hS:Sound P call)(hx:CxOk cx fi){as:List AOp}(hl:as.length=ops.size)
  (hok:∀(i:Nat) (o:Oper) (ao:AOp),ops[i]?=some o→as[i]?=some ao→OpOk P pur fi ops o ao) {A':Frm} {σ':Sto} {S:Nat→Prop} (hsp:∀t,S t→∀(i:Nat) (o:Oper),ops[i]?=some o→o.dst≠some t) {a0:Act} (hq:∀a' w',Sim cx a' w' A' σ'→(∀t,S t→at' a' t=at' a0 t)→Q .normal a' w') :
  ∀(d k:Nat),k+d=ops.size→∀(A:Frm) (σ:Sto),AjD pur call (as.drop k) A σ=some (A',σ')→∀a w,Sim cx a w A σ→(∀t,S t→at' a t=at' a0 t)→wpOpsIn (FW ro) n P ops Q (List.range' k d) a w:=by
 intro d
 induction d with
 |zero=>
  intro k hk A σ hex a w hs hf;rw[List.drop_eq_nil_of_le (by omega)] at hex
  cases hex;exact hq a w hs hf
 |succ d ih=>
  intro k hk A σ hex a w hs hf;have hlt:k<as.length:=by omega
  rw[List.drop_eq_getElem_cons hlt] at hex;simp only[AjD] at hex
  split at hex
  ·rename_i A1 σ1 h1;rw[List.range'_succ,wpOpsIn_cons];have ho:ops[k]?=some ops[k]:=Array.getElem?_eq_getElem (by omega)
   exact exec_sound hS hx ho (hok k _ _ ho (List.getElem?_eq_getElem hlt)) hs h1 (fun a' w' hs' hk'=>ih (k+1) (by omega) A1 σ1 hex a' w' hs' fun t ht=>(hk' t (hsp t ht k _ ho)).trans (hf t ht))
  ·cases hex
theorem Inv.drew(hi:Inv cx G a w A σ):Inv cx G a w.drew A σ:=by
 have:=hi.step (fun _=>False) none undef (AkF _) (AxW hi.base) rfl (fun t p hp=>.inl ⟨hp,by simp,fun _ h=>h,fun _ _ _ _=>by simp,fun _ _=>⟨by simp,fun h=>h⟩⟩) (fun _ cs hc=>.inl ⟨hc,fun _ h=>h⟩) hi.len hi.abl
 exact this
end
end Go.Abs

namespace Go.Abs
open Go.RowKit
def normO(cs:List PV):List PV ⊕ (KD×PV×(Kx→PV)):=match mapOf (some cs) with
 |some (d,z,ks,vs)=>.inr (d,z,fun x=>(lookX x ks vs).getD z)
 |none=>.inl (cs.map PV.own0)
def Esto(σ τ:Sto):Prop:=σ.map normO=τ.map normO
theorem AjA(d:KD)(z:PV)(ks:List Kx)(vs:List PV):normO [.mapo d z ks vs]=.inr (d,z,fun x=>(lookX x ks vs).getD z):=rfl
theorem AjB(cs:List PV):(mapOf (some cs)=none)∨∃d z ks vs,cs=[.mapo d z ks vs]:=by
 unfold mapOf;split
 ·rename_i h;cases h;exact .inr ⟨_,_,_,_,rfl⟩
 ·exact .inl rfl
theorem Az2{cs:List PV}(h:mapOf (some cs)=none):normO cs=.inl (cs.map PV.own0):=by
 unfold normO;rw[h]
theorem normO_eq{ds cs:List PV}(h:normO ds=normO cs):ds.map PV.own0=cs.map PV.own0∨∃d z ks vs ks' vs',ds=[.mapo d z ks vs]∧cs=[.mapo d z ks' vs']∧∀x,(lookX x ks vs).getD z=(lookX x ks' vs').getD z:=by
 rcases AjB ds with h1 | ⟨d,z,ks,vs,rfl⟩
 ·rcases AjB cs with h2 | ⟨d',z',ks',vs',rfl⟩
  ·rw[Az2 h1,Az2 h2] at h;exact .inl (by simpa using h)
  ·rw[Az2 h1,AjA] at h;cases h
 ·rcases AjB cs with h2 | ⟨d',z',ks',vs',rfl⟩
  ·rw[Az2 h2,AjA] at h;cases h
  ·rw[AjA,AjA] at h;have h:=Sum.inr.inj h;simp only[Prod.mk.injEq] at h;obtain⟨rfl,rfl,h3⟩:=h;exact .inr ⟨_,_,_,_,_,_,rfl,rfl,fun x=>congrFun h3 x⟩
section
variable{P:Program}{pur:FuncId→Bool}{call:Caller}{fi:FI}{cx:Cx}{G:Gh}{a:Act}{w:World}{A A' B:Frm}{σ σ' τ:Sto}{rg:RG}{o:Oper}{ao:AOp}{ops:Array Oper}
theorem Ax4:∀(ts:List Nat) (vs:List (Option PV)) (A:Frm) (t:Nat),t∉ts→(AqO A ts vs).get t=A.get t
 |[],vs,A,t,_=>by cases vs<;>rfl
 |s::ts,[],A,t,_=>rfl
 |s::ts,v::vs,A,t,h=>by
  rw[AqO,Ax4 ts vs _ t (fun h'=>h (List.mem_cons_of_mem _ h')),AqL,if_neg (fun h'=>h (by rw[h'.1];exact List.mem_cons_self ..))]
theorem Ak9:∀(ts:List Nat) (vs:List (Option PV)) (A B:Frm) (t:Nat),A.length=B.length→ts.length≤vs.length→t∈ts→(AqO A ts vs).get t=(AqO B ts vs).get t
 |[],vs,A,B,t,_,_,h=>by cases h
 |s::ts,[],A,B,t,_,h,_=>by simp at h
 |s::ts,v::vs,A,B,t,hl,hv,h=>by
  rw[AqO,AqO];by_cases ht:t∈ts
  ·exact Ak9 ts vs _ _ t (by simp[hl]) (by simpa using hv) ht
  ·rw[Ax4 ts vs _ t ht,Ax4 ts vs _ t ht,AqL,AqL]
   have hts:t=s:=by
    rcases List.mem_cons.1 h with h | h
    ·exact h
    ·exact absurd h ht
   subst hts;by_cases hlt:t<A.length
   ·rw[if_pos ⟨rfl,hlt⟩,if_pos ⟨rfl,by omega⟩]
   ·rw[if_neg (fun h=>hlt h.2),if_neg (fun h=>hlt (by omega))]
    unfold Frm.get;rw[List.getElem?_eq_none (by omega),List.getElem?_eq_none (by omega)]
theorem AjN:∀(as:List AArg),(∀t∈AXR as,B.get t=A.get t)→Aq8 B as=Aq8 A as
 |[],_=>rfl
 |.slot t::as,h=>by
  simp only[Aq8];rw[h t (List.mem_cons_self ..),AjN as (fun t' ht'=>h t' (List.mem_cons_of_mem _ ht'))]
 |.val v::as,h=>by
  simp only[Aq8];rw[AjN as (fun t' ht'=>h t' ht')]
theorem wantedA_congr(g:Option (Nat×Bool))(h:∀t b,g=some (t,b)→B.get t=A.get t):AzT B g=AzT A g:=by
 cases g with
 |none=>rfl
 |some x=>
  obtain⟨t,b⟩:=x;simp only[AzT];rw[h t b rfl]
theorem AZO(x:PV):x.own0.isSelf=x.isSelf:=by cases x<;>rfl
theorem isAgg_own0(x:PV):x.own0.isAgg=x.isAgg:=by cases x<;>rfl
theorem AvZ{x:PV}(h:x.isAgg=false):x.Aq0=x.own0:=by cases x<;>first | rfl | (simp[PV.isAgg] at h)
theorem flat_own0(x:PV):x.own0.flat=x.flat:=by cases x<;>rfl
theorem all_flat(l:List PV):(l.map PV.own0).all PV.flat=l.all PV.flat:=by
 rw[List.all_map];congr 1;funext x;exact flat_own0 x
theorem arrOf_own0(cs:List PV)(g s:Nat):arrOf cs g s=arrOf (cs.map PV.own0) g s:=by
 match cs with
 |[]=>rfl
 |[x]=>cases x<;>rfl
 |x::y::l=>cases x<;>rfl
theorem arrOf_own{cs ds:List PV}(h:ds.map PV.own0=cs.map PV.own0)(g s:Nat):arrOf ds g s=arrOf cs g s:=by rw[arrOf_own0,h,←arrOf_own0]
theorem subO_own{cs ds:List PV}(h:ds.map PV.own0=cs.map PV.own0)(off n:Nat)(ag:Bool):(subO ds off n ag).map PV.Aq0=(subO cs off n ag).map PV.Aq0:=by
 have hl:ds.length=cs.length:=by simpa using congrArg List.length h
 have hsl:((ds.drop off).take n).map PV.own0=((cs.drop off).take n).map PV.own0:=by
  rw[List.map_take,List.map_drop,List.map_take,List.map_drop,h]
 cases ag with
 |true=>
  simp only[subO,hl];rw[←all_flat ((ds.drop off).take n),hsl,all_flat];split
  ·simp only[Option.map_some,PV.Aq0,Option.some.injEq,PV.agg.injEq];exact hsl
  ·rfl
 |false=>
  simp only[subO];have hg:=congrArg (fun l=>l[off]?) h
  simp only[List.getElem?_map] at hg
  cases hd:ds[off]? with
  |none=>
   rw[hd] at hg;cases hc:cs[off]? with
   |none=>rfl
   |some y=>rw[hc] at hg;simp at hg
  |some x=>
   rw[hd] at hg;cases hc:cs[off]? with
   |none=>rw[hc] at hg;simp at hg
   |some y=>
    rw[hc] at hg;simp only[Option.map_some,Option.some.injEq] at hg;have hag:x.isAgg=y.isAgg:=by rw[←isAgg_own0 x,hg,isAgg_own0]
    have hse:x.isSelf=y.isSelf:=by rw[←AZO x,hg,AZO]
    dsimp only;rw[hag,hse];cases hy:y.isAgg with
    |true=>rfl
    |false=>
     cases hz:y.isSelf with
     |true=>rfl
     |false=>
      simp only[Bool.or_self,Bool.false_eq_true,if_false,Option.map_some];rw[AvZ (by rw[hag];exact hy),AvZ hy,hg]
theorem subO_alike{ds cs:List PV}(h:normO ds=normO cs)(off n:Nat)(ag:Bool):(subO ds off n ag).map PV.Aq0=(subO cs off n ag).map PV.Aq0:=by
 rcases normO_eq h with h | ⟨d,z,ks,vs,ks',vs',rfl,rfl,_⟩
 ·exact subO_own h off n ag
 ·cases ag with
  |true=>
   simp only[subO,List.length_singleton];by_cases ho:off+n≤1
   ·rcases off with _ | off
    ·rcases n with _ | n
     ·rfl
     ·obtain rfl:n=0:=by omega
      rfl
    ·obtain rfl:n=0:=by omega
     rfl
   ·rw[if_neg (fun h=>ho h.1),if_neg (fun h=>ho h.1)]
  |false=>
   rcases off with _ | off
   ·rfl
   ·rfl
theorem arrOf_alike{ds cs:List PV}(h:normO ds=normO cs)(g s:Nat):arrOf ds g s=arrOf cs g s:=by
 rcases normO_eq h with h | ⟨d,z,ks,vs,ks',vs',rfl,rfl,_⟩
 ·exact arrOf_own h g s
 ·rfl
theorem lk_alike{σ τ:Sto}(h:Esto τ σ)(id:Nat)(z k:PV)(d:KD):semR (.lkM z false d) [.mref id,k] τ=semR (.lkM z false d) [.mref id,k] σ:=by
 have hg:=congrArg (fun l=>l[id]?) h
 simp only[List.getElem?_map] at hg
 have one:∀(ρ:Sto),semR (.lkM z false d) [.mref id,k] ρ=match(ρ[id]?).map normO,kxOf d k with
   |some (.inr (d',z',f)),some x=>if d'=d∧zsame z z'=true then lkR false (f x) true else none
   |_,_=>none:=by
  intro ρ;simp only[semR];cases hρ:ρ[id]? with
  |none=>simp[mapOf]
  |some cs=>
   rcases AjB cs with h1 | ⟨d',z',ks,vs,rfl⟩
   ·rw[h1,Option.map_some,Az2 h1]
   ·rw[Option.map_some,AjA]
    show(match some (d',z',ks,vs),kxOf d k with
     |some (d',z',ks,vs),some x=>if d'=d∧zsame z z'=true then(match lookX x ks vs with | some v=>lkR false v true | none=>lkR false z' false) else none
     |_,_=>none)=_
    cases hk:kxOf d k with
    |none=>rfl
    |some x=>
     dsimp only;split
     ·cases hl:lookX x ks vs with
      |some v=>rfl
      |none=>rfl
     ·rfl
 rw[one,one,hg]
theorem semR_local{k:RK}{vs:List PV}(hw:isW (.r k)=true→τ=σ)(h:Esto τ σ):semR k vs τ=semR k vs σ:=by
 cases k with
 |ld n ag=>
  match vs with
  |[]=>rfl
  |x::y::l=>cases x<;>rfl
  |[x]=>
   cases x with
   |ref id off=>
    simp only[semR];have hg:=congrArg (fun l=>l[id]?) h
    simp only[List.getElem?_map] at hg
    cases hd:τ[id]? with
    |none=>
     rw[hd] at hg;cases hc:σ[id]? with
     |none=>rfl
     |some y=>rw[hc] at hg;simp at hg
    |some ds=>
     rw[hd] at hg;cases hc:σ[id]? with
     |none=>rw[hc] at hg;simp at hg
     |some cs=>
      rw[hc] at hg;simp only[Option.map_some,Option.some.injEq] at hg;have:=subO_alike hg off n ag;dsimp only;have e:∀s:Option PV,(s.map fun v=>[some v.Aq0])=(s.map PV.Aq0).map fun v=>[some v]:=fun s=>by cases s<;>rfl
      rw[e,e,this]
   |aptr id gen size i off=>
    simp only[semR];have hg:=congrArg (fun l=>l[id]?) h
    simp only[List.getElem?_map] at hg
    cases hd:τ[id]? with
    |none=>
     rw[hd] at hg;cases hc:σ[id]? with
     |none=>rfl
     |some y=>rw[hc] at hg;simp at hg
    |some ds=>
     rw[hd] at hg;cases hc:σ[id]? with
     |none=>rw[hc] at hg;simp at hg
     |some cs=>
      rw[hc] at hg;simp only[Option.map_some,Option.some.injEq] at hg;dsimp only;rw[arrOf_alike hg]
   |_=>rfl
 |lkM z ok d=>
  cases ok with
  |true=>rw[hw rfl]
  |false=>
   match vs with
   |[]=>rfl
   |[x]=>cases x<;>rfl
   |x::y::u::l=>cases x<;>rfl
   |[x,y]=>
    cases x with
    |mref id=>exact lk_alike h id z y d
    |_=>rfl
 |lnM=>rw[hw rfl]
theorem sem_local{k:AK}{vs:List PV}{rs:List (Option PV)}(hW:isW k=true→τ=σ)(hE:isP k=false→Esto τ σ)(h:sem pur call k vs σ=some (rs,σ')):
  ∃τ',sem pur call k vs τ=some (rs,τ')∧(isW k=true→τ'=σ')∧(isW k=false→τ'=τ):=by
 cases k with
 |p k=>
  simp only[sem] at h ⊢;obtain⟨rs',h1,e⟩:=Option.map_eq_some_iff.1 h;cases e;exact⟨τ,by rw[h1];rfl,fun h=>by simp[isW] at h,fun _=>rfl⟩
 |r k=>
  simp only[sem] at h ⊢;obtain⟨rs',h1,e⟩:=Option.map_eq_some_iff.1 h;cases e;exact⟨τ,by rw[semR_local hW (hE rfl),h1];rfl,fun h=>hW h,fun _=>rfl⟩
 |w k=>
  have:=hW rfl;subst this;exact⟨σ',h,fun _=>rfl,fun h=>by simp[isW] at h⟩
 |c f=>
  simp only[sem] at h ⊢
  split at h
  ·rename_i hf;rw[if_pos hf];obtain⟨⟨r,σ1⟩,h1,h2⟩:=Option.bind_eq_some_iff.1 h;dsimp only at h2
   split at h2
   ·rename_i hr;cases h2;refine⟨τ,?_,fun h=>by simp[isW] at h,fun _=>rfl⟩
    rw[h1];simp[hr]
   ·cases h2
  ·cases h
theorem exec_local(hl:B.length=A.length)(hrd:∀t,t∈ao.rd→B.get t=A.get t)(hW:isW ao.k=true→τ=σ)(hE:isP ao.k=false→Esto τ σ)(h:execA pur call ao A σ=some (A',σ')):
  ∃B' τ',execA pur call ao B τ=some (B',τ')∧B'.length=B.length∧(∀t,t∈ao.wr→B'.get t=A'.get t)∧(∀t,t∉ao.wr→B'.get t=B.get t)∧(isW ao.k=true→τ'=σ')∧(isW ao.k=false→τ'=τ):=by
 have hw:AzT B ao.guard=AzT A ao.guard:=wantedA_congr _ fun t b hg=>hrd t (by simp[AOp.rd,hg])
 have he:Aq8 B ao.args=Aq8 A ao.args:=AjN _ fun t ht=>hrd t (by simp only[AOp.rd];exact List.mem_append_right _ ht)
 have fin:∀{B':Frm} {τ':Sto},execA pur call ao B τ=some (B',τ')→B'.length=B.length:=fun h=>exec_len h
 unfold execA at h
 split at h
 ·rename_i hwt;unfold runA at h
  split at h
  ·rename_i vs hvs
   split at h
   ·rename_i rs σ1 hs
    have hσ:σ1=σ':=by
     split at h
     ·cases h;rfl
     ·split at h<;>cases h;rfl
    subst hσ;obtain⟨τ',h1,h2,h3⟩:=sem_local hW hE hs;by_cases hlen:rs.length=ao.dst.toList.length+ao.ex.length
    ·rw[if_pos hlen] at h;cases h
     have hB:execA pur call ao B τ=some (AqO B ao.wr (rs++ao.clr.map fun _=>none),τ'):=by
      unfold execA;rw[hw,hwt];dsimp only;unfold runA;rw[he,hvs];dsimp only;rw[h1];dsimp only;rw[if_pos hlen]
     refine⟨_,τ',hB,fin hB,fun t ht=>Ak9 _ _ _ _ t hl ?_ ht,fun t ht=>Ax4 _ _ _ t ht,h2,h3⟩
     simp only[AOp.wr,List.length_append,List.length_map];omega
    ·rw[if_neg hlen] at h
     split at h
     ·rename_i hc;cases h
      have hB:execA pur call ao B τ=some (B,τ'):=by
       unfold execA;rw[hw,hwt];dsimp only;unfold runA;rw[he,hvs];dsimp only;rw[h1];dsimp only;rw[if_neg hlen,if_pos hc]
      refine⟨_,τ',hB,rfl,fun t ht=>?_,fun t ht=>rfl,h2,h3⟩
      have:ao.wr=[]:=by
       simp only[AOp.wr,hc.2.1,hc.2.2,List.append_nil];have:=hc.1;cases hd:ao.dst with
       |none=>rfl
       |some d=>rw[hd] at this;simp at this
      rw[this] at ht;cases ht
     ·cases h
   ·cases h
  ·cases h
 ·rename_i hwt
  split at h
  ·rename_i hc;cases h
   have hB:execA pur call ao B τ=some (AqO B ao.wr [some AkN],τ):=by
    unfold execA;rw[hw,hwt];dsimp only;rw[if_pos hc]
   refine⟨_,τ,hB,fin hB,fun t ht=>Ak9 _ _ _ _ t hl ?_ ht,fun t ht=>Ax4 _ _ _ t ht,hW,fun _=>rfl⟩
   simp only[AOp.wr,hc.1,hc.2,List.append_nil];cases ao.dst<;>simp
  ·cases h
 ·cases h
theorem exec_frame(h:execA pur call ao A σ=some (A',σ')):∀t,t∉ao.wr→A'.get t=A.get t:=by
 unfold execA at h
 split at h
 ·unfold runA at h
  split at h
  ·split at h
   ·split at h
    ·cases h;intro t ht;exact Ax4 _ _ _ t ht
    ·split at h
     ·cases h;intro t _;rfl
     ·cases h
   ·cases h
  ·cases h
 ·split at h
  ·cases h;intro t ht;exact Ax4 _ _ _ t ht
  ·cases h
 ·cases h
theorem exec_store{T:Sto→Sto→Prop}(hT:∀s,T s s)(h:execA pur call ao A σ=some (A',σ'))(hk:∀vs rs,sem pur call ao.k vs σ=some (rs,σ')→T σ' σ):T σ' σ:=by
 unfold execA at h
 split at h
 ·unfold runA at h
  split at h
  ·split at h
   ·rename_i rs σ1 hs
    split at h
    ·cases h;exact hk _ _ hs
    ·split at h
     ·cases h;exact hk _ _ hs
     ·cases h
   ·cases h
  ·cases h
 ·split at h
  ·cases h;exact hT _
  ·cases h
 ·cases h
theorem sem_same{k:AK}{vs:List PV}{rs:List (Option PV)}(hk:isW k=false)(h:sem pur call k vs σ=some (rs,σ')):σ'=σ:=by
 obtain⟨τ',h1,_,h3⟩:=sem_local (τ:=σ) (fun _=>rfl) (fun _=>rfl) h
 rw[h] at h1;cases h1;exact h3 hk
theorem not_map{cs:List PV}{i:Nat}{p:PV}(h:cs[i]?=some p)(hp:p.isSl=true):mapOf (some cs)=none:=by
 rcases AjB cs with h1 | ⟨d,z,ks,vs,rfl⟩
 ·exact h1
 ·cases i with
  |zero=>cases h;cases hp
  |succ i=>simp at h
theorem set_own{σ:Sto}{id off:Nat}{cs:List PV}{v:PV}(hσ:σ[id]?=some cs)(hv:cs[off]?=some v)(hag:v.isAgg=false)(hsl:v.isSl=true):Esto (σ.set id (AxA cs off [v.Aq0])) σ:=by
 unfold Esto;rw[List.map_set];apply List.ext_getElem?;intro k;rw[List.getElem?_set]
 split
 ·rename_i e;subst e;have hlt:=(List.getElem?_eq_some_iff.1 hσ).1
  simp only[List.length_map,hlt,if_true,List.getElem?_map,hσ,Option.map_some,Option.some.injEq]
  have hofs:=(List.getElem?_eq_some_iff.1 hv)
  obtain⟨hlo,hve⟩:=hofs
  have hp:(AxA cs off [v.Aq0])[off]?=some v.Aq0:=by
   rw[AwS (by simp;omega),if_pos ⟨Nat.le_refl _,by simp⟩,Nat.sub_self];rfl
  rw[Az2 (not_map hv hsl),Az2 (not_map hp (by cases v<;>first | rfl | cases hsl))]
  congr 1;unfold AxA;simp only[List.map_append,List.map_cons,List.map_nil,List.length_cons,List.length_nil];have e1:v.Aq0.own0=v.own0:=by rw[AvZ hag];cases v<;>rfl
  rw[e1,←hve];have key:cs.take off++cs[off]::cs.drop (off+1)=cs:=by rw[←List.drop_eq_getElem_cons hlo,List.take_append_drop]
  have:=congrArg (List.map PV.own0) key;rw[List.map_append,List.map_cons] at this;simpa using this
 ·rfl
theorem findX_app(y x:Kx):∀ks:List Kx,findX y (ks++[x])=match findX y ks with | some j=>some j | none=>if x=y then some ks.length else none
 |[]=>by
  simp only[List.nil_append,findX,List.length_nil,Option.map_none]
 |k::ks=>by
  simp only[List.cons_append,findX];split
  ·rfl
  ·rw[findX_app y x ks];cases findX y ks with
   |some j=>rfl
   |none=>
    by_cases h:x=y
    ·simp[h]
    ·simp[h]
theorem findX_lt{ks:List Kx}{x:Kx}{j:Nat}(h:findX x ks=some j):j<ks.length:=(List.getElem?_eq_some_iff.1 (Av1 h)).1
theorem look_app{ks:List Kx}{vs:List PV}{x:Kx}{z:PV}(hl:vs.length=ks.length)(y:Kx):(lookX y (ks++[x]) (vs++[z])).getD z=(lookX y ks vs).getD z:=by
 unfold lookX;rw[findX_app];cases h:findX y ks with
 |some j=>
  have:=findX_lt h;simp only[Option.bind_some];rw[List.getElem?_append_left (by omega)]
 |none=>
  by_cases hxy:x=y
  ·simp only[hxy,if_true,Option.bind_some,Option.bind_none];rw[←hl,List.getElem?_append_right (Nat.le_refl _),Nat.sub_self];rfl
  ·simp[hxy]
theorem set_map{id:Nat}{d:KD}{z:PV}{ks:List Kx}{vs:List PV}{x:Kx}(hm:mapOf σ[id]?=some (d,z,ks,vs))(hl:vs.length=ks.length):Esto (σ.set id [.mapo d z (ks++[x]) (vs++[z])]) σ:=by
 have hσ:σ[id]?=some [.mapo d z ks vs]:=by
  unfold mapOf at hm
  split at hm
  ·cases hm;assumption
  ·cases hm
 unfold Esto;rw[List.map_set];apply List.ext_getElem?;intro k;rw[List.getElem?_set]
 split
 ·rename_i e;subst e;have hlt:=(List.getElem?_eq_some_iff.1 hσ).1
  simp only[List.length_map,hlt,if_true,List.getElem?_map,hσ,Option.map_some,Option.some.injEq]
  rw[AjA,AjA];congr 3
  funext y
  exact look_app hl y
 ·rfl
theorem sem_soft{k:AK}{vs:List PV}{rs:List (Option PV)}(hk:isH k=false)(h:sem pur call k vs σ=some (rs,σ')):Esto σ' σ:=by
 cases k with
 |w k=>
  cases k with
  |ldo=>
   simp only[sem] at h
   match vs,h with
   |[c],h=>
    obtain⟨id,off,cs,v,rfl,h1,h2,h3,e⟩:=ldo_sem h;cases e;exact set_own h1 h2 (by cases v<;>first | rfl | simp[PV.isSl] at h3) h3
   |[],h=>simp[semW] at h
   |x::y::l,h=>simp[semW] at h
  |enM z d=>
   simp only[sem] at h
   match vs,h with
   |[.mref id,k],h=>
    simp only[semW] at h
    split at h
    ·rename_i d' z' ks ws x hm hx
     split at h
     case isFalse=>cases h
     split at h
     ·split at h
      ·split at h
       ·cases h;rfl
       ·cases h
      ·cases h
     ·split at h
      case isFalse=>cases h
      rename_i hcc;cases h;exact set_map hm hcc.2
    ·cases h
  |_=>simp[isH] at hk
 |r k=>
  simp only[sem] at h;obtain⟨rs',h1,e⟩:=Option.map_eq_some_iff.1 h;cases e;rfl
 |_=>
  have:=sem_same (by rfl) h
  rw[this];rfl
theorem fold_bits(acc:List Nat)(i:Nat):∀(l:List Edge) (s:Nat),(l.foldl (fun s e=>if Region.binds .any e then s ||| 2 ^ e.on ||| acc.getD e.on 0 else s) s).testBit i=true→
  s.testBit i=true∨∃e∈l,Region.binds .any e=true∧(e.on=i∨(acc.getD e.on 0).testBit i=true)
 |[],s,h=>.inl h
 |e::l,s,h=>by
  simp only[List.foldl_cons] at h;rcases fold_bits acc i l _ h with h | ⟨e',he',h⟩
  ·split at h
   ·rename_i hb;simp only[Nat.testBit_or,Bool.or_eq_true] at h;rcases h with(h | h) | h
    ·exact .inl h
    ·rw[Nat.testBit_two_pow] at h;exact .inr ⟨e,List.mem_cons_self ..,hb,.inl (by simpa using h)⟩
    ·exact .inr ⟨e,List.mem_cons_self ..,hb,.inr h⟩
   ·exact .inl h
  ·exact .inr ⟨e',List.mem_cons_of_mem _ he',h⟩
theorem AJ8:∀(l:List Oper) (pre:List Oper) (acc:List Nat),ops.toList=pre++l→acc.length=pre.length→(∀i j,j<pre.length→(acc.getD j 0).testBit i=true→Ahead ops i j)→
  ∀i j,j<ops.size→((aheads acc l).getD j 0).testBit i=true→Ahead ops i j
 |[],pre,acc,he,hl,h=>by
  intro i j hj hb;refine h i j ?_ hb
  have:=congrArg List.length he;simp at this;omega
 |o::l,pre,acc,he,hl,h=>by
  simp only[aheads];refine AJ8 l (pre++[o]) _ (by rw[he];simp) (by simp[hl]) fun i j hj hb=>?_
  by_cases hlt:j<pre.length
  ·refine h i j hlt ?_
   rw[List.getD_eq_getElem?_getD,List.getElem?_append_left (by omega),←List.getD_eq_getElem?_getD] at hb
   exact hb
  ·have hj':j=pre.length:=by simp at hj;omega
   subst hj';rw[List.getD_eq_getElem?_getD,List.getElem?_append_right (by omega),hl] at hb
   simp only[Nat.sub_self,List.getElem?_cons_zero,Option.getD_some,aheadBits] at hb
   have ho:ops[pre.length]?=some o:=by
    rw[←Array.getElem?_toList,he];simp
   intro L hcl hL;have hL':=hL o ho;rw[←Array.foldl_toList] at hb;rcases fold_bits acc i _ _ hb with hb | ⟨e,hemem,hbind,hb⟩
   ·simp at hb
   ·have hemem':e∈o.after:=by simpa using hemem
    rcases hb with rfl | hb
    ·exact hL' e hemem' hbind
    ·have hlt:e.on<pre.length:=by
      rcases Nat.lt_or_ge e.on pre.length with h' | h'
      ·exact h'
      ·rw[List.getD_eq_getElem?_getD,List.getElem?_eq_none (by omega)] at hb
       simp at hb
     exact h i e.on hlt hb L hcl (fun o' ho' e' he' hb'=>hcl e.on o' ho' (hL' e hemem' hbind) e' he' hb')
theorem AJU{bits:List Nat}{as:List AOp}:∀(n:Nat),pairsOk bits as n=true→∀i j,i<j→j<n→(bits.getD j 0).testBit i=true∨apartA (as.getD i default) (as.getD j default)=true
 |0,_=>fun i j _ h=>by omega
 |n+1,h=>by
  simp only[pairsOk,Bool.and_eq_true] at h;intro i j hij hj;rcases Nat.lt_or_ge j n with h' | h'
  ·exact AJU n h.1 i j hij h'
  ·have:j=n:=by omega
   subst this;have:=List.all_eq_true.1 h.2 i (List.mem_range.2 hij);simpa using this
theorem AX9:∀(n:Nat),acyclic ops.toList n=true→∀i o,i<n→ops[i]?=some o→∀e∈o.after,Region.binds .any e=true→e.on<i
 |0,_=>fun i o h=>by omega
 |n+1,h=>by
  simp only[acyclic,Bool.and_eq_true] at h;intro i o hi ho e he hb;rcases Nat.lt_or_ge i n with h' | h'
  ·exact AX9 n h.1 i o h' ho e he hb
  ·have:i=n:=by omega
   subst this;have h2:=h.2;rw[Array.getElem?_toList,ho] at h2
   dsimp only at h2;have:=Array.all_eq_true_iff_forall_mem.1 h2 e he;simp only[hb,Bool.not_true,Bool.false_or,decide_eq_true_eq] at this;exact this
theorem AjO{x y:List Nat}(h:AwZ x y=true):∀t,t∈x→t∉y:=by
 intro t ht hy;have:=List.all_eq_true.1 h t ht;simp at this;exact this hy
theorem AJ6{as:List AOp}{i j:Nat}(h:apartA (as.getD i default) (as.getD j default)=true):
  AQ7 (fun i=>(as.getD i default).rd) (fun i=>(as.getD i default).wr) (fun i=>isW (as.getD i default).k) (fun i=>isH (as.getD i default).k) (fun i=>isP (as.getD i default).k) i j:=by
 simp only[apartA,Bool.and_eq_true] at h;obtain⟨⟨⟨⟨h1,h2⟩,h3⟩,h4⟩,h5⟩:=h;refine⟨AjO h1,AjO h2,AjO h3,fun hw=>?_,fun hw=>?_⟩
 ·simp only[hw,Bool.not_true,Bool.false_or,Bool.or_eq_true,Bool.and_eq_true,Bool.not_eq_true'] at h4;exact h4
 ·simp only[hw,Bool.not_true,Bool.false_or,Bool.or_eq_true,Bool.and_eq_true,Bool.not_eq_true'] at h5;exact h5
theorem AZW:∀(as:List AOp) (A A':Frm) (σ σ':Sto),AjD pur call as A σ=some (A',σ')→
  ∃(F:Nat→Frm) (S:Nat→Sto),F 0=A∧S 0=σ∧F as.length=A'∧S as.length=σ'∧∀i,i<as.length→execA pur call (as.getD i default) (F i) (S i)=some (F (i+1),S (i+1))
 |[],A,A',σ,σ',h=>by
  cases h;exact⟨fun _=>A,fun _=>σ,rfl,rfl,rfl,rfl,fun i h=>by simp at h⟩
 |ao::as,A,A',σ,σ',h=>by
  simp only[AjD] at h
  split at h
  ·rename_i A1 σ1 h1;obtain⟨F,S,e1,e2,e3,e4,e5⟩:=AZW as A1 A' σ1 σ' h;refine⟨fun i=>match i with | 0=>A | i+1=>F i,fun i=>match i with | 0=>σ | i+1=>S i,rfl,rfl,e3,e4,fun i hi=>?_⟩
   cases i with
   |zero=>
    show execA pur call ao A σ=some (F 0,S 0);rw[h1,e1,e2]
   |succ i=>exact e5 i (by simpa using hi)
  ·cases h
theorem isW_isP{k:AK}(h:isW k=true):isP k=false:=by cases k<;>first | rfl | simp[isW] at h
theorem isH_isW{k:AK}(h:isH k=true):isW k=true:=by cases k<;>first | rfl | simp[isH] at h
theorem region_sound{ro:Option Nat}{n:Nat}{Q:Exit→Act→World→Prop}(hS:Sound P call)(hx:CxOk cx fi)(hmo:P.follows .mixedOrders=true){id:Nat}{draw:Bool}{as:List AOp}(hc:AQT P pur fi id ops draw=some as)
  (hex:AjD pur call as A σ=some (A',σ')) (hs:Sim cx a w A σ) {Sl:Nat→Prop} (hsp:∀t,Sl t→∀(i:Nat) (o:Oper),ops[i]?=some o→o.dst≠some t) (hq:∀a' w',Sim cx a' w' A' σ'→(∀t,Sl t→at' a' t=at' a t)→Q .normal a' w'):(Code.region id ops draw).wpIn (FW ro) n P Q a w:=by
 unfold AQT at hc
 split at hc
 ·rename_i as' hl;obtain⟨hlen,hspec⟩:=AQ0 _ _ _ hl;have hlen':as'.length=ops.size:=by simpa using hlen
  have hok:∀(i:Nat) (o:Oper) (ao:AOp),ops[i]?=some o→as'[i]?=some ao→OpOk P pur fi ops o ao:=fun i o ao ho ha=>hspec i o ao (by rw[Array.getElem?_toList];exact ho) ha
  cases draw with
  |false=>
   simp only[Bool.false_eq_true,if_false] at hc;cases hc;refine wpIn_region ?_
   have:=ops_sound (ro:=ro) (n:=n) hS hx hlen' hok hsp hq ops.size 0 (by omega) A σ (by simpa using hex) a w hs (fun _ _=>rfl)
   rw[List.range_eq_range'];exact this
  |true=>
   simp only[if_true] at hc
   split at hc
   ·rename_i hcc;cases hc;simp only[Bool.and_eq_true] at hcc;obtain⟨hacy,hpairs⟩:=hcc;obtain⟨F,S,e1,e2,e3,e4,e5⟩:=AZW _ _ _ _ _ hex;rw[hlen'] at e3 e4 e5;refine wpIn_region_any hmo ?_
    have hlenF:∀i,i≤ops.size→(F i).length=(F 0).length:=by
     intro i
     induction i with
     |zero=>intro _;rfl
     |succ i ih=>intro hi;rw[exec_len (e5 i (by omega)),ih (by omega)]
    refine AJF (A:=F) (S:=S) (x:=fun i B τ=>execA pur call (as.getD i default) B τ) (rd:=fun i=>(as.getD i default).rd) (wr:=fun i=>(as.getD i default).wr)
     (W:=fun i=>isW (as.getD i default).k) (H:=fun i=>isH (as.getD i default).k) (Pu:=fun i=>isP (as.getD i default).k) (E:=Esto) (Sim:=fun a1 w B τ=>Sim cx a1 w B τ∧∀t,Sl t→at' a1 t=at' a t)
     (fun _=>rfl) (fun _ _ h=>h.symm) (fun _ _ _ h k=>h.trans k)
     (fun i hi hH=>exec_store (fun _=>rfl) (e5 i hi) (fun vs rs h=>sem_soft hH h)) hlenF (fun i hi t ht=>exec_frame (e5 i hi) t ht)
     (fun i hi hW=>exec_store (T:=fun s t=>s=t) (fun _=>rfl) (e5 i hi) (fun vs rs h=>sem_same hW h))
     (fun i hi h=>isW_isP h) (fun i hi h=>isH_isW h) ?_ ?_ ?_ ?_ ?_ ops.size (Array.replicate ops.size false) (List.range ops.size) (F 0) (S 0) a _ (by simp) (by simp) (fun j hj _=>List.mem_range.2 hj) ?_ ?_
    ·intro i hi B τ hBl hrd hW hE;exact exec_local (by rw[hBl,hlenF i (by omega)]) hrd hW hE (e5 i hi)
    ·intro i j hij hj;rcases AJU _ hpairs i j hij hj with h | h
     ·exact .inl (AJ8 ops.toList [] [] rfl rfl (fun i j h=>by simp at h) i j hj h)
     ·exact .inr (AJ6 h)
    ·intro i o ho e he hb;have hi:i<ops.size:=(Array.getElem?_eq_some_iff.1 ho).1
     exact AX9 ops.size hacy i o hi ho e he hb
    ·intro i hi a1 w B τ B' τ' K hs' hx' hK;have ho:ops[i]?=some ops[i]:=Array.getElem?_eq_getElem hi
     have ha:as[i]?=some (as.getD i default):=by
      rw[List.getD_eq_getElem?_getD,List.getElem?_eq_getElem (by omega)];rfl
     exact exec_sound hS hx ho (hok i _ _ ho ha) hs'.1 hx' fun a' w' h1 h2=>hK a' w' ⟨h1,fun t ht=>(h2 t (hsp t ht i _ ho)).trans (hs'.2 t ht)⟩
    ·intro a' w' hs';rw[e3,e4] at hs';exact hq a' w' hs'.1 hs'.2
    ·have hL:∀j,(Array.replicate ops.size false).getD j false=false:=by
      intro j;by_cases hj:j<ops.size<;>simp[Array.getD,hj]
     refine⟨?_,rfl,fun t=>⟨0,by omega,rfl,fun j hj _=>?_⟩,0,by omega,rfl,fun j hj _=>?_⟩
     ·intro j o ho hLj
      exfalso
      have:(Array.replicate ops.size false).getD j false=true:=hLj;rw[hL] at this;cases this
     ·show(Array.replicate ops.size false).getD j false=true↔_;rw[hL];simp
     ·show(Array.replicate ops.size false).getD j false=true↔_;rw[hL];simp
    ·rw[e1,e2];obtain⟨G,hi⟩:=hs;exact⟨⟨G,hi.drew⟩,fun _ _=>rfl⟩
   ·cases hc
 ·cases hc
end
end Go.Abs

namespace Go.Abs
open Go.RowKit
def AExit.ex:AExit→Exit
 |.normal=>.normal
 |.exit id=>.exit id
 |.ret=>.ret
section
variable{P:Program}{pur:FuncId→Bool}{call:Caller}{fi:FI}{cx:Cx}{G:Gh}{a:Act}{w:World}{A A' B:Frm}{σ σ' τ:Sto}
theorem AjH{keep:List Bool}(h:keep.length=A.length):(mask keep A).length=A.length:=by
 unfold mask;rw[List.length_zipWith];omega
theorem mask_get{keep:List Bool}{t:Nat}{v:PV}(h:(mask keep A).get t=some v):A.get t=some v:=by
 unfold mask Frm.get at h;rw[List.getElem?_zipWith] at h
 unfold Frm.get;cases hk:keep[t]? with
 |none=>rw[hk] at h;simp at h
 |some b=>
  rw[hk] at h;cases ha:A[t]? with
  |none=>rw[ha] at h;simp at h
  |some x=>
   rw[ha] at h;dsimp only at h ⊢
   split at h
   ·exact h
   ·cases h
theorem sim_mask{keep:List Bool}(hl:keep.length=A.length)(hs:Sim cx a w A σ):Sim cx a w (mask keep A) σ:=by
 obtain⟨G,hi⟩:=hs;exact⟨G,hi.forget (AjH hl) (fun t v h=>mask_get h)⟩
theorem iter_len{keep:List Bool}{body:Frm→Sto→Option (AExit×Frm×Sto)}(hb:∀A σ e A' σ',body A σ=some (e,A',σ')→A'.length=A.length):
  ∀(n:Nat) (A:Frm) (σ:Sto) (e:AExit) (A':Frm) (σ':Sto),keep.length=A.length→iter keep body n A σ=some (e,A',σ')→A'.length=A.length
 |0,A,σ,e,A',σ',_,h=>by cases h
 |n+1,A,σ,e,A',σ',hl,h=>by
  simp only[iter] at h
  split at h
  ·rename_i A1 σ1 h1;have:=hb _ _ _ _ _ h1;rw[iter_len hb n _ _ _ _ _ (by rw[AjH (by omega)];omega) h,AjH (by omega),this]
  ·exact hb _ _ _ _ _ h
theorem arun_len{m:Nat}:∀(ac:ACode) (A:Frm) (σ:Sto) (e:AExit) (A':Frm) (σ':Sto),arun pur call m ac A σ=some (e,A',σ')→A'.length=A.length:=by
 intro ac
 induction ac with
 |skip=>intro A σ e A' σ' h;simp only[arun] at h;cases h;rfl
 |region ops=>
  intro A σ e A' σ' h;simp only[arun] at h;obtain⟨⟨A1,σ1⟩,h1,e1⟩:=Option.map_eq_some_iff.1 h;cases e1;exact AZX _ h1
 |seq x y ihx ihy=>
  intro A σ e A' σ' h;simp only[arun] at h
  split at h
  ·rename_i A1 σ1 h1;rw[ihy _ _ _ _ _ h,ihx _ _ _ _ _ h1]
  ·exact ihx _ _ _ _ _ h
 |cond c t e iht ihe=>
  intro A σ e A' σ' h;simp only[arun] at h
  split at h
  ·exact iht _ _ _ _ _ h
  ·exact ihe _ _ _ _ _ h
  ·cases h
 |block id c ih=>
  intro A σ e A' σ' h;simp only[arun] at h
  split at h
  ·rename_i i A1 σ1 h1
   split at h<;>(cases h;exact ih _ _ _ _ _ h1)
  ·exact ih _ _ _ _ _ h
 |loop keep c ih=>
  intro A σ e A' σ' h;simp only[arun] at h
  split at h
  ·rename_i hl;rw[iter_len (fun A σ e A' σ' h=>ih A σ e A' σ' h) _ _ _ _ _ _ (by rw[AjH hl];exact hl) h,AjH hl]
  ·cases h
 |exit id=>intro A σ e A' σ' h;simp only[arun] at h;cases h;rfl
 |ret=>intro A σ e A' σ' h;simp only[arun] at h;cases h;rfl
theorem least{T:Nat→Prop}(h:∃k,T k):∃k,T k∧∀j,T j→k≤j:=by
 obtain⟨k,hk⟩:=h
 induction k using Nat.strongRecOn with
 |_ k ih=>
  by_cases h:∃j,j<k∧T j
  ·obtain⟨j,h1,h2⟩:=h;exact ih j h1 h2
  ·exact⟨k,hk,fun j hj=>Nat.le_of_not_lt fun hlt=>h ⟨j,hlt,hj⟩⟩
def Ax1(t:Nat):Code→Bool
 |.region _ ops _=>ops.toList.all fun o=>o.dst != some t
 |.seq x y=>Ax1 t x&&Ax1 t y
 |.cond _ x y=>Ax1 t x&&Ax1 t y
 |.block _ c=>Ax1 t c
 |.loop c=>Ax1 t c
 |_=>true
theorem AzG{ro:Option Nat}{n:Nat}(hS:Sound P call)(hx:CxOk cx fi)(hmo:P.follows .mixedOrders=true):∀(c:Code) (ac:ACode),comp P pur fi c=some ac→
  ∀(m:Nat) (A:Frm) (σ:Sto) (e:AExit) (A':Frm) (σ':Sto),arun pur call m ac A σ=some (e,A',σ')→∀(a:Act) (w:World),Sim cx a w A σ→
  ∀(Q:Exit→Act→World→Prop),(∀a' w',Sim cx a' w' A' σ'→(∀t,Ax1 t c=true→at' a' t=at' a t)→Q e.ex a' w')→c.wpIn (FW ro) n P Q a w:=by
 intro c
 induction c with
 |skip=>
  intro ac hc m A σ e A' σ' h a w hs Q hq;simp only[comp] at hc;cases hc;simp only[arun] at h;cases h;exact wpIn_skip (hq a w hs fun _ _=>rfl)
 |region id ops draw=>
  intro ac hc m A σ e A' σ' h a w hs Q hq;simp only[comp] at hc;obtain⟨as,has,rfl⟩:=Option.map_eq_some_iff.1 hc;simp only[arun] at h;obtain⟨⟨A1,σ1⟩,h1,e1⟩:=Option.map_eq_some_iff.1 h;cases e1
  exact region_sound hS hx hmo has h1 hs (Sl:=fun t=>Ax1 t (.region id ops draw)=true) (fun t ht i o ho=>by
   simp only[Ax1] at ht;have:=List.all_eq_true.1 ht o (List.mem_of_getElem? (by rw[Array.getElem?_toList];exact ho))
   simpa using this) hq
 |seq x y ihx ihy=>
  intro ac hc m A σ e A' σ' h a w hs Q hq;simp only[comp] at hc
  split at hc
  ·rename_i ax ay hax hay;cases hc;simp only[arun] at h;refine wpIn_seq ?_
   split at h
   ·rename_i A1 σ1 h1
    exact ihx ax hax m A σ _ A1 σ1 h1 a w hs _ (fun a' w' hs' hf=>ihy ay hay m A1 σ1 e A' σ' h a' w' hs' Q fun a2 w2 hs2 hf2=>hq a2 w2 hs2 fun t ht=>by
     simp only[Ax1,Bool.and_eq_true] at ht;exact(hf2 t ht.2).trans (hf t ht.1))
   ·rename_i hn;refine ihx ax hax m A σ e A' σ' h a w hs _ (fun a' w' hs' hf=>?_)
    have hf':∀t,Ax1 t (.seq x y)=true→at' a' t=at' a t:=fun t ht=>by
     simp only[Ax1,Bool.and_eq_true] at ht;exact hf t ht.1
    cases e with
    |normal=>exact absurd h (hn A' σ')
    |exit id=>exact hq a' w' hs' hf'
    |ret=>exact hq a' w' hs' hf'
  ·cases hc
 |cond c x y ihx ihy=>
  intro ac hc m A σ e A' σ' h a w hs Q hq;simp only[comp] at hc
  split at hc
  ·rename_i ac' ax ay hac hax hay;cases hc;simp only[arun] at h;have hs0:=hs;obtain⟨G,hi⟩:=hs
   split at h
   ·rename_i hev;have:=(Aq5 hi hx.kd hac hev rfl).AzM;exact wpIn_cond_true this (ihx ax hax m A σ e A' σ' h a w hs0 Q fun a' w' hs' hf=>hq a' w' hs' fun t ht=>hf t (by simp only[Ax1,Bool.and_eq_true] at ht;exact ht.1))
   ·rename_i hev;have:=(Aq5 hi hx.kd hac hev rfl).AzM;exact wpIn_cond_false this (ihy ay hay m A σ e A' σ' h a w hs0 Q fun a' w' hs' hf=>hq a' w' hs' fun t ht=>hf t (by simp only[Ax1,Bool.and_eq_true] at ht;exact ht.2))
   ·cases h
  ·cases hc
 |block id c ih=>
  intro ac hc m A σ e A' σ' h a w hs Q hq;simp only[comp] at hc;obtain⟨ac',hac,rfl⟩:=Option.map_eq_some_iff.1 hc;simp only[arun] at h;refine wpIn_block ?_
  split at h
  ·rename_i i A1 σ1 h1;refine ih ac' hac m A σ _ A1 σ1 h1 a w hs _ (fun a' w' hs' hf=>?_)
   show(if i=id then Q .normal a' w' else Q (.exit i) a' w')
   split at h
   ·rename_i e1;cases h;rw[if_pos e1];exact hq a' w' hs' hf
   ·rename_i e1;cases h;rw[if_neg e1];exact hq a' w' hs' hf
  ·rename_i hn;refine ih ac' hac m A σ e A' σ' h a w hs _ (fun a' w' hs' hf=>?_)
   cases e with
   |normal=>exact hq a' w' hs' hf
   |exit id=>exact absurd h (hn id A' σ')
   |ret=>exact hq a' w' hs' hf
 |loop c ih=>
  intro ac hc m A σ e A' σ' h a w hs Q hq;simp only[comp] at hc;obtain⟨ac',hac,rfl⟩:=Option.map_eq_some_iff.1 hc;simp only[arun] at h
  split at h
  ·rename_i hl
   let keep:=fi.keep
   let body:=arun pur call m ac'
   let T:Act→World→Nat→Prop:=fun a w k=>∃A σ,keep.length=A.length∧Sim cx a w A σ∧iter keep body k A σ=some (e,A',σ')
   classical
   let μ:Act→World→Nat:=fun a w=>if hex:∃k,T a w k then(least hex).choose else 0
   refine wpIn_loop (fun a1 w=>(∃k,T a1 w k)∧∀t,Ax1 t (.loop c)=true→at' a1 t=at' a t) μ ⟨⟨m,mask keep A,σ,by rw[AjH hl];exact hl,sim_mask hl hs,h⟩,fun _ _=>rfl⟩ ?_
   rintro a1 w ⟨hI,hF⟩
   have hμ:μ a1 w=(least hI).choose:=dif_pos hI;obtain⟨A1,σ1,hl1,hs1,hit⟩:=(least hI).choose_spec.1;rw[←hμ] at hit;cases hk:μ a1 w with
   |zero=>rw[hk] at hit;simp[iter] at hit
   |succ k=>
    rw[hk] at hit;simp only[iter] at hit
    split at hit
    ·rename_i A2 σ2 h2;refine ih ac' hac m A1 σ1 _ A2 σ2 h2 a1 w hs1 _ (fun a' w' hs' hf=>?_)
     have hl2:keep.length=A2.length:=by rw[arun_len _ _ _ _ _ _ h2];exact hl1
     have hT:T a' w' k:=⟨mask keep A2,σ2,by rw[AjH hl2];exact hl2,sim_mask hl2 hs',hit⟩
     refine⟨⟨⟨k,hT⟩,fun t ht=>(hf t ht).trans (hF t ht)⟩,?_⟩
     have hI':∃k,T a' w' k:=⟨k,hT⟩;have hμ':μ a' w'=(least hI').choose:=dif_pos hI';have:(least hI').choose≤k:=(least hI').choose_spec.2 k hT;omega
    ·rename_i hn;refine ih ac' hac m A1 σ1 e A' σ' hit a1 w hs1 _ (fun a' w' hs' hf=>?_)
     have hf':∀t,Ax1 t (.loop c)=true→at' a' t=at' a t:=fun t ht=>(hf t ht).trans (hF t ht)
     cases e with
     |normal=>exact absurd hit (hn A' σ')
     |exit id=>exact hq a' w' hs' hf'
     |ret=>exact hq a' w' hs' hf'
  ·cases h
 |exit id=>
  intro ac hc m A σ e A' σ' h a w hs Q hq;simp only[comp] at hc;cases hc;simp only[arun] at h;cases h;exact wpIn_exit (hq a w hs fun _ _=>rfl)
 |ret=>
  intro ac hc m A σ e A' σ' h a w hs Q hq;simp only[comp] at hc;cases hc;simp only[arun] at h;cases h;exact wpIn_ret (hq a w hs fun _ _=>rfl)
 |_=>intro ac hc;simp[comp] at hc
end
end Go.Abs

namespace Go.Abs
open Go.RowKit
section
variable{P:Program}{pur:FuncId→Bool}{call:Caller}{fi:FI}{cx:Cx}{G:Gh}{a:Act}{w:World}{A A' B:Frm}{σ σ' τ:Sto}
theorem Ak0{k:SK}(h:k.isVal=true):k.val=true:=by cases k<;>first | rfl | simp[SK.isVal] at h
theorem kind_lt{t:Nat}(h:fi.kind t≠.plain):t<fi.kd.length:=by
 rcases Nat.lt_or_ge t fi.kd.length with h' | h'
 ·exact h'
 ·exfalso;apply h
  unfold FI.kind;rw[List.getD_eq_getElem?_getD,List.getElem?_eq_none h'];rfl
theorem okB_ents(h:fi.okB=true):∀t m,(∃key,fi.kind t=.ent m key)→∃keys,fi.kind m=.mapb keys:=by
 rintro t m ⟨key,hk⟩
 have:=List.all_eq_true.1 h t (List.mem_range.2 (kind_lt (by rw[hk];simp)))
 rw[hk] at this;simp only[Bool.and_eq_true] at this;have h1:=this.1
 split at h1
 ·rename_i keys hm;exact⟨keys,hm⟩
 ·cases h1
theorem okB_uniq(h:fi.okB=true):∀t t' m key,fi.kind t=.ent m key→fi.kind t'=.ent m key→t=t':=by
 intro t t' m key hk hk';have:=List.all_eq_true.1 h t (List.mem_range.2 (kind_lt (by rw[hk];simp)))
 rw[hk] at this;simp only[Bool.and_eq_true] at this;have h2:=List.all_eq_true.1 this.2 t' (List.mem_range.2 (kind_lt (by rw[hk'];simp)))
 rw[hk'] at h2;simp at h2;exact h2.symm
def mkCx(fi:FI)(hok:fi.okB=true)(K:Nat→Prop)(G:Gh)(w:World):Cx:=
 { K,I0:=G.I,w0:=w,bl0:=G.bl,kd:=fi.kind,nt:=fi.nt,al:=fi.alias,ents:=okB_ents hok,uniq:=okB_uniq hok }
theorem cxOk(hok:fi.okB=true)(K:Nat→Prop)(G:Gh)(w:World):CxOk (mkCx fi hok K G w) fi:=⟨fun _=>rfl,rfl,fun _=>rfl⟩
theorem get_init{args:List PV}{k t:Nat}{p:PV}(h:Frm.get (args.map some++List.replicate k none) t=some p):args[t]?=some p:=by
 unfold Frm.get at h;by_cases hlt:t<args.length
 ·rw[List.getElem?_append_left (by simpa using hlt),List.getElem?_map] at h
  cases ha:args[t]? with
  |none=>rw[ha] at h;cases h
  |some q=>rw[ha] at h;exact h
 ·rw[List.getElem?_append_right (by simp;omega)] at h
  split at h
  ·rename_i v hv;have:=List.mem_of_getElem? hv;rw[List.mem_replicate] at this;rw[this.2] at h;cases h
  ·cases h
theorem AZA{tag:Tag}{v:Value}{p:PV}(h:p.Aq0=p):OwnOk G w tag v p:=by
 rw[←h];exact AqA p
theorem inv_init(hok:fi.okB=true){K:Nat→Prop}(hpre:Pre K G w σ){vs:Array Value}{args:List PV}(hargs:AxY G.I G.bl w vs.toList args)(hown:∀p∈args,p.Aq0=p)(hle:args.length≤fi.nt)
  (hval:∀t,t<args.length→(fi.kind t).val=true) (extra:Nat) :
  Inv (mkCx fi hok K G w) G { tmps:=vs++Array.replicate (fi.nt - vs.size) undef,defers:=[] } w (args.map some++List.replicate (fi.nt+extra - args.length) none) σ:=by
 have hvs:vs.size=args.length:=by simpa using hargs.1
 refine⟨rfl,?_,?_,?_,?_,hpre.obj,hpre.len,hpre.abl⟩
 ·show(vs++Array.replicate (fi.nt - vs.size) undef).size=fi.nt
  simp;omega
 ·show fi.nt≤_
  simp;omega
 ·refine⟨fun _ _=>rfl,Same.refl _ _,fun _ _ h=>h,fun _ _ h=>.inl h,hpre.lt,hpre.own,hpre.Klt,Nat.le_refl _,Bl.le_refl _,rfl,rfl,rfl⟩
 ·intro t p hp;have ha:=get_init hp;have hlt:=(List.getElem?_eq_some_iff.1 ha).1
  obtain⟨v,hv,hr⟩:=hargs.2 t p ha
  have hat:at' { tmps:=vs++Array.replicate (fi.nt - vs.size) undef,defers:=[] } t=v:=by
   have hlt':t<vs.size:=by omega
   rw[Array.getElem?_toList] at hv
   simp only[at',Array.getD_eq_getD_getElem?];rw[Array.getElem?_append_left hlt',hv];rfl
  rw[Aq9 (hval t hlt) hr.free,hat];exact⟨hr,AZA (hown p (List.mem_of_getElem? ha))⟩
def resF(tmps:Array Value):ResultVar→Sem Value
 |.tmp t=>pure (tmps.getD t undef)
 |.cell b t=>do loadVar t (←asAddr (tmps.getD b undef))
theorem results_eq(fn:Func)(tmps:Array Value):results fn tmps=(do let vs ← fn.results.mapM (resF tmps);pure (if h:vs.size=1 then vs[0] else .tuple vs)):=rfl
theorem Ak8(hi:Inv cx G a w A σ)(hx:CxOk cx fi):∀(rl:List ResultVar) (rs:List (Nat×Option Nat)) (ps:List PV),Aj1 P fi rl=some rs→AxE A rs=some ps→
  ∃vl:List Value,(rl.mapM (resF a.tmps)).run P w=.ok vl w∧AxY G.I G.bl w vl ps
 |[],rs,ps,hr,hp=>by
  cases hr;cases hp;exact⟨[],rfl,rfl,fun i p h=>by simp at h⟩
 |.tmp t::rl,rs,ps,hr,hp=>by
  simp only[Aj1] at hr
  split at hr
  ·rename_i hpl;obtain⟨rs',hrs,rfl⟩:=Option.map_eq_some_iff.1 hr;simp only[AxE] at hp
   split at hp
   ·rename_i v vs hg hvs
    split at hp
    ·rename_i hf;cases hp;obtain⟨vl,h1,h2⟩:=Ak8 hi hx rl rs' vs hrs hvs;have hsl:=AxN hx.kd hx.nt hpl;have hrep:=((Aq9 hsl.2 hf).1 (hi.slot t v hg)).1;refine⟨at' a t::vl,?_,by simp[h2.1],fun i p hp=>?_⟩
     ·rw[List.mapM_cons];simp only[resF,Sem.run_bind,Sem.run_pure,Result.andThen_ok,h1];rfl
     ·cases i with
      |zero=>simp at hp;subst hp;exact⟨_,rfl,hrep.Aq0⟩
      |succ i=>simpa using h2.2 i p (by simpa using hp)
    ·simp[Aw9] at hp
   ·cases hp
  ·cases hr
 |.cell t ty::rl,rs,ps,hr,hp=>by
  simp only[Aj1] at hr
  split at hr
  ·rename_i n hcell
   split at hr
   ·rename_i hpl;obtain⟨rs',hrs,rfl⟩:=Option.map_eq_some_iff.1 hr;simp only[AxE] at hp
    split at hp
    ·rename_i v vs hg hvs
     split at hp
     ·rename_i hf;cases hp;obtain⟨vl,h1,h2⟩:=Ak8 hi hx rl rs' vs hrs hvs;have hk:cx.kd t=.box:=by rw[hx.kd];exact hpl.2
      obtain⟨b,hb,hcells⟩:=(AqM hk).1 (hi.slot t v hg)
      have hsub:sub v 0 n true=some v:=by
       cases v with
       |agg cs=>
        simp only[resOk,fits,Bool.true_and,Bool.and_eq_true,beq_iff_eq,PV.cells] at hf;obtain⟨rfl,hf2⟩:=hf;have e:(cs.drop 0).take cs.length=cs:=by simp
        simp only[sub];rw[e,if_pos ⟨by omega,hf2⟩]
       |_=>simp[resOk,fits] at hf
      obtain⟨u,hu1,hu2⟩:=AzC (P:=P) hcell hcells hsub
      have hld:(loadVar ty ⟨b,0,none⟩).run P w=.ok u w:=by
       simpa [Instr.loadAt,Instr.sureAddr] using hu1
      have hat:a.tmps.getD t undef=.pointer (some ⟨b,0,none⟩):=hb;refine⟨u::vl,?_,by simp[h2.1],fun i p hp=>?_⟩
      ·rw[List.mapM_cons]
       have hres:(resF a.tmps (.cell t ty)).run P w=.ok u w:=by
        simp only[resF,Sem.run_bind,hat,asAddr,Sem.run_pure,Result.andThen_ok,hld]
       simp only[Sem.run_bind,hres,Sem.run_pure,Result.andThen_ok,h1]
      ·cases i with
       |zero=>simp at hp;subst hp;exact⟨_,rfl,hu2.Aq0⟩
       |succ i=>simpa using h2.2 i p (by simpa using hp)
     ·rename_i hnf;obtain⟨r,hres,e⟩:=Option.map_eq_some_iff.1 hp;cases e;obtain⟨vl,h1,h2⟩:=Ak8 hi hx rl rs' vs hrs hvs;have hk:cx.kd t=.box:=by rw[hx.kd];exact hpl.2
      obtain⟨b,hb,hcells⟩:=(AqM hk).1 (hi.slot t v hg);simp only[Aw9] at hres
      split at hres
      case isFalse=>cases hres
      rename_i hcc;cases hres;cases v with
      |agg cs=>
       simp only[fits,Bool.true_and,Bool.and_eq_true,beq_iff_eq,PV.cells] at hcc;obtain⟨rfl,hall⟩:=hcc
       have hsub:subB (.agg cs) 0 cs.length true=some (.aggr cs):=by
        have e:(cs.drop 0).take cs.length=cs:=by simp
        have hno:sub (.agg cs) 0 cs.length true=none:=by
         simp only[sub];rw[e,if_neg]
         rintro⟨_,hf⟩
         refine hnf ?_
         simp only[resOk,fits,PV.cells,Bool.true_and,beq_self_eq_true];exact hf
        unfold subB;rw[hno]
        simp only
        rw[e,if_pos ⟨by omega,by simpa using hall⟩]
       obtain⟨u,hu1,hu2⟩:=AX0 (P:=P) hcell hcells hsub
       have hld:(loadVar ty ⟨b,0,none⟩).run P w=.ok u w:=by
        simpa [Instr.loadAt,Instr.sureAddr] using hu1
       have hat:a.tmps.getD t undef=.pointer (some ⟨b,0,none⟩):=hb;refine⟨u::vl,?_,by simp[h2.1],fun i p hp=>?_⟩
       ·rw[List.mapM_cons]
        have hres:(resF a.tmps (.cell t ty)).run P w=.ok u w:=by
         simp only[resF,Sem.run_bind,hat,asAddr,Sem.run_pure,Result.andThen_ok,hld]
        simp only[Sem.run_bind,hres,Sem.run_pure,Result.andThen_ok,h1]
       ·cases i with
        |zero=>simp at hp;subst hp;exact⟨_,rfl,hu2.Aq0⟩
        |succ i=>simpa using h2.2 i p (by simpa using hp)
      |_=>simp[fits] at hcc
    ·cases hp
   ·cases hr
  ·cases hr
theorem AQI(hi:Inv cx G a w A σ)(hx:CxOk cx fi){fn:Func}{rs:List (Nat×Option Nat)}{ps:List PV}{r:PV}(hr:Aj1 P fi fn.results.toList=some rs)(hp:AxE A rs=some ps)(hpk:packR ps=some r):
  ∃v,(results fn a.tmps).run P w=.ok v w∧RepT G.I G.bl w v r:=by
 obtain⟨vl,h1,h2⟩:=Ak8 (P:=P) hi hx _ _ _ hr hp
 have hrun:(results fn a.tmps).run P w=.ok (if h:vl.toArray.size=1 then vl.toArray[0] else .tuple vl.toArray) w:=by
  rw[results_eq,Array.mapM_eq_mapM_toList];simp only[Sem.run_bind,Sem.run_map,h1,Result.andThen_ok,Sem.run_pure]
 rw[hrun]
 match ps,hpk,h2 with
 |[p],hpk,h2=>
  cases hpk;obtain⟨v,hv,hrep⟩:=h2.2 0 _ rfl;have hl:=h2.1
  match vl,hl,hv with
  |[u],_,hv=>
   cases hv;exact⟨v,rfl,hrep⟩
 |[],hpk,h2=>
  have hl:=h2.1;have:vl=[]:=List.length_eq_zero_iff.1 (by simpa using hl)
  subst this;simp only[packR] at hpk;cases hpk;exact⟨_,rfl,.tuple rfl fun i p h=>by simp at h⟩
 |p::q::ps',hpk,h2=>
  simp only[packR] at hpk
  split at hpk
  ·rename_i hall;cases hpk;have hl:=h2.1;have hne:¬vl.toArray.size=1:=by simp at hl ⊢;omega
   refine⟨.tuple vl.toArray,by rw[dif_neg hne],.tuple (by simpa using hl) fun i x hx=>?_⟩
   obtain⟨v,hv,hrep⟩:=h2.2 i x hx
   have:vl.toArray.getD i undef=v:=by
    rw[Array.getD_eq_getD_getElem?,List.getElem?_toArray,hv];rfl
   rw[this];exact hrep.rep1 (List.all_eq_true.1 hall x (List.mem_of_getElem? hx))
  ·cases hpk
theorem fn_sound{f:FuncId}{fn:Func}{af:AFunc}{n:Nat}{args:List PV}{r:PV}(hmo:P.follows .mixedOrders=true)(hfn:P.funcs[f]?=some fn)(hname:(fn.name == "runtime.NumGoroutine")=false)
  (hcf:AvE P pur fi fn=some af) (hS:Sound P call) (hown:∀p∈args,p.Aq0=p) (h:runFn pur call n af args σ=some (r,σ')):AvR P f args σ r σ':=by
 unfold AvE at hcf
 split at hcf
 ·rename_i c hbody
  split at hcf
  ·rename_i ac rs hac hrs
   split at hcf
   ·cases hcf
   ·rename_i hcc;cases hcf;simp only[not_or,ne_eq,Classical.not_not,Bool.not_eq_false] at hcc;obtain⟨hnt,hok,hvals⟩:=hcc;refine⟨⟨fn,hfn,hname,by rw[hbody];rfl⟩,fun m vs w G K hargs hpre=>?_⟩
    unfold runFn at h
    split at h
    ·rename_i hlen;obtain⟨hl1,hl2⟩:=hlen;dsimp only at hl1 hl2 h;have hval:∀t,t<args.length→(fi.kind t).val=true:=fun t ht=>Ak0 (List.all_eq_true.1 hvals t (List.mem_range.2 (by omega)))
     have hinit:=inv_init hok hpre hargs hown (by omega) hval fi.ps.length
     have hvs:vs.size=args.length:=by simpa using hargs.1
     have hcx:=cxOk hok K G w
     have hpost:∀e A1 σ1,(e=AExit.normal∨e=AExit.ret)→arun pur call n ac (args.map some++List.replicate (fn.ntmps+fi.ps.length - args.length) none) σ=some (e,A1,σ1)→
       ((AxE A1 rs).bind fun vs=>(packR vs).map fun r=>(r,σ1))=some (r,σ')→
       CallsIn (FW none) m P f vs w fun e w'=>∃v G',e=.returned v∧RepT G'.I G'.bl w' v r∧Aft K G w σ' G' w':=by
      intro e A1 σ1 he hrun hres;obtain⟨ps,hps,hres⟩:=Option.bind_eq_some_iff.1 hres;obtain⟨r',hr',e1⟩:=Option.map_eq_some_iff.1 hres;cases e1;refine callsIn_of_wp hfn hbody trivial ?_
      rw[←hnt] at hrun ⊢;refine AzG hS hcx hmo c ac hac n _ σ e A1 σ' hrun _ w ⟨G,hinit⟩ _ (fun a' w' hs' _=>?_)
      obtain⟨G',hi'⟩:=hs';obtain⟨v,hv,hrep⟩:=AQI (P:=P) hi' hcx hrs hps hr';have hb:=hi'.base;have haft:Aft K G w σ' G' w':=⟨hb.keep,hb.same,hb.sub,hb.new,hb.lt,hb.own,hb.grow,hb.bl,hb.os,hb.tape,hb.output,hi'.obj,hi'.len,hi'.abl⟩;rcases he with rfl | rfl
      ·exact⟨hi'.defers,v,hv,v,G',rfl,hrep,haft⟩
      ·exact⟨hi'.defers,v,hv,v,G',rfl,hrep,haft⟩
     split at h
     ·rename_i A1 σ1 hrun;exact hpost _ A1 σ1 (.inl rfl) hrun h
     ·rename_i A1 σ1 hrun;exact hpost _ A1 σ1 (.inr rfl) hrun h
     ·cases h
    ·cases h
  ·cases hcf
 ·cases hcf
end
end Go.Abs

namespace Go.Abs
open Go.RowKit
abbrev FF:=List (Nat×Option PV)
noncomputable section
abbrev RFS:=Option (FF×Sto)
abbrev RX:=Option (AExit×FF×Sto)
def getK(ff:FF)(t:Nat):Option PV:=List.rec (motive:=fun _=>Option PV) none (fun p _ ih=>cond (Nat.beq p.1 t) p.2 ih) ff
def evalK(ff:FF)(as:List AArg):Option (List PV):=
 List.rec (motive:=fun _=>Option (List PV)) (some []) (fun a _ ih=>AArg.rec (motive:=fun _=>Option (List PV))
  (fun t=>Option.rec (motive:=fun _=>Option (List PV)) none (fun v=>Option.rec (motive:=fun _=>Option (List PV)) none (fun vs=>some (v::vs)) ih) (getK ff t))
  (fun v=>Option.rec (motive:=fun _=>Option (List PV)) none (fun vs=>some (v::vs)) ih) a) as
def putK(ts:List Nat):List (Option PV)→FF→FF:=
 List.rec (motive:=fun _=>List (Option PV)→FF→FF) (fun _ ff=>ff) (fun t _ ih vs ff=>List.rec (motive:=fun _=>FF) ff (fun v vs _=>ih vs ((t,v)::ff)) vs) ts
def AzB(v:Option PV)(b:Bool):Option Bool:=
 match v with
  |some (.bool c)=>some (c==b)
  |some (.tuple [])=>some false
  |_=>none
def runK'(pur:FuncId→Bool)(call:Caller)(o:AOp)(ff:FF)(σ:Sto):RFS:=
 Option.rec (motive:=fun _=>RFS) none (fun vs=>
  Option.rec (motive:=fun _=>RFS) none (fun r => 
   cond (Nat.beq r.1.length (o.dst.toList.length+o.ex.length)) (some (putK o.wr (r.1++o.clr.map fun _=>none) ff,r.2))
    (cond (o.dst.isNone&&o.ex.isEmpty&&o.clr.isEmpty) (some (ff,r.2)) none)) (sem pur call o.k vs σ)) (evalK ff o.args)
def execK(pur:FuncId→Bool)(call:Caller)(o:AOp)(ff:FF)(σ:Sto):RFS:=
 Option.rec (motive:=fun _=>RFS) (runK' pur call o ff σ) (fun g => 
  Option.rec (motive:=fun _=>RFS) none (fun b=>cond b (runK' pur call o ff σ) (cond (o.ex.isEmpty&&o.clr.isEmpty) (some (putK o.wr [some AkN] ff,σ)) none)) (AzB (getK ff g.1) g.2)) o.guard
def opsK(pur:FuncId→Bool)(call:Caller)(os:List AOp):FF→Sto→RX:=
 List.rec (motive:=fun _=>FF→Sto→RX) (fun ff σ=>some (.normal,ff,σ)) (fun o _ ih ff σ=>
  Option.rec (motive:=fun _=>RX) none (fun r=>ih r.1 r.2) (execK pur call o ff σ)) os
def AxL(e:AExit):Bool:=AExit.rec (motive:=fun _=>Bool) true (fun _=>false) false e
def AqY(ff:FF)(keep:List Bool):Nat→FF:=
 List.rec (motive:=fun _=>Nat→FF) (fun _=>[]) (fun b _ ih n=>cond b ((n,getK ff n)::ih (n+1)) (ih (n+1))) keep
def iterK(keep:List Bool)(body:FF→Sto→RX)(n:Nat):FF→Sto→RX:=
 Nat.rec (motive:=fun _=>FF→Sto→RX) (fun _ _=>none) (fun _ ih ff σ=>
  Option.rec (motive:=fun _=>RX) none (fun r=>cond (AxL r.1) (ih (AqY r.2.1 keep 0) r.2.2) (some r)) (body ff σ)) n
def condK(v:Option (List PV))(x y:RX):RX:=match v with
 |some [.bool b]=>cond b x y
 |_=>none
def arunK(pur:FuncId→Bool)(call:Caller)(n:Nat)(c:ACode):FF→Sto→RX:=
 ACode.rec (motive:=fun _=>FF→Sto→RX)
  (fun ff σ=>some (.normal,ff,σ))
  (fun ops=>opsK pur call ops)
  (fun _ _ iha ihb ff σ=>Option.rec (motive:=fun _=>RX) none (fun r=>cond (AxL r.1) (ihb r.2.1 r.2.2) (some r)) (iha ff σ))
  (fun c _ _ iht ihe ff σ=>condK (evalK ff [c]) (iht ff σ) (ihe ff σ))
  (fun id _ ih ff σ=>Option.rec (motive:=fun _=>RX) none (fun r=>AExit.rec (motive:=fun _=>RX) (some r) (fun i=>cond (Nat.beq i id) (some (.normal,r.2)) (some r)) (some r) r.1) (ih ff σ))
  (fun keep _ ih ff σ=>iterK keep ih n (AqY ff keep 0) σ)
  (fun id ff σ=>some (.exit id,ff,σ))
  (fun ff σ=>some (.ret,ff,σ)) c
def initK(args:List PV):Nat→FF:=List.rec (motive:=fun _=>Nat→FF) (fun _=>[]) (fun a _ ih n=>(n,some a)::ih (n+1)) args
def resK(ff:FF)(rs:List (Nat×Option Nat)):Option (List PV):=
 List.rec (motive:=fun _=>Option (List PV)) (some []) (fun r _ ih=>match getK ff r.1,ih with
  |some v,some vs=>if resOk v r.2 then some (v.Aq0::vs) else(Aw9 v r.2).map fun r=>r::vs
  |_,_=>none) rs
def AkS(pur:FuncId→Bool)(call:Caller)(n:Nat)(fn:AFunc)(args:List PV)(σ:Sto):Option (PV×Sto):=
 cond (Nat.beq args.length fn.nargs&&Nat.ble args.length fn.ntmps)
  (Option.rec (motive:=fun _=>Option (PV×Sto)) none (fun r=>AExit.rec (motive:=fun _=>Option (PV×Sto)) ((resK r.2.1 fn.results).bind fun vs=>(packR vs).map fun x=>(x,r.2.2)) (fun _=>none)
   ((resK r.2.1 fn.results).bind fun vs=>(packR vs).map fun x=>(x,r.2.2)) r.1) (arunK pur call n fn.code (initK args 0) σ)) none
def okOp(N:Nat)(o:AOp):Bool:=o.wr.all fun t=>Nat.blt t N
def Az9(N:Nat):ACode→Bool
 |.region ops=>ops.all (okOp N)
 |.seq a b=>Az9 N a&&Az9 N b
 |.cond _ t e=>Az9 N t&&Az9 N e
 |.block _ c=>Az9 N c
 |.loop keep c=>Nat.beq keep.length N&&Az9 N c
 |_=>true
abbrev Prim:=Caller→List PV→Sto→Option (PV×Sto)
def callK(pur:FuncId→Bool)(prim:FuncId→Option Prim)(tab:FuncId→Option AFunc)(n:Nat):Caller:=
 Nat.rec (motive:=fun _=>Caller) (fun _ _ _=>none) (fun n ih f args σ=>Option.rec (motive:=fun _=>Option (PV×Sto))
  (Option.rec (motive:=fun _=>Option (PV×Sto)) none (fun fn=>AkS pur ih n fn args σ) (tab f)) (fun g=>g ih args σ) (prim f)) n
end
structure Rel(N:Nat)(ff:FF)(A:Frm):Prop where
 len:A.length=N
 get:∀t v,getK ff t=some v→A.get t=some v
section
variable{P:Program}{pur:FuncId→Bool}{call:Caller}{N:Nat}{ff ff':FF}{A:Frm}{σ σ':Sto}
theorem Av0(p:Nat×Option PV)(ff:FF)(t:Nat):getK (p::ff) t=cond (Nat.beq p.1 t) p.2 (getK ff t):=rfl
theorem AwW(h:Rel N ff A):∀(as:List AArg) (vs:List PV),evalK ff as=some vs→Aq8 A as=some vs
 |[],vs,he=>by cases he;rfl
 |.slot t::as,vs,he=>by
  have he':(Option.rec (motive:=fun _=>Option (List PV)) none (fun v=>Option.rec (motive:=fun _=>Option (List PV)) none (fun vs=>some (v::vs)) (evalK ff as)) (getK ff t))=some vs:=he
  cases hg:getK ff t with
  |none=>rw[hg] at he';cases he'
  |some v=>
   rw[hg] at he';cases hr:evalK ff as with
   |none=>rw[hr] at he';cases he'
   |some ws=>
    rw[hr] at he';cases he';simp only[Aq8,h.get t v hg,AwW h as ws hr]
 |.val v::as,vs,he=>by
  have he':(Option.rec (motive:=fun _=>Option (List PV)) none (fun vs=>some (v::vs)) (evalK ff as))=some vs:=he
  cases hr:evalK ff as with
  |none=>rw[hr] at he';cases he'
  |some ws=>
   rw[hr] at he';cases he';simp only[Aq8,AwW h as ws hr,Option.map_some]
theorem putK_sim:∀(ts:List Nat) (vs:List (Option PV)) {ff:FF} {A:Frm},Rel N ff A→(∀t∈ts,t<N)→Rel N (putK ts vs ff) (AqO A ts vs)
 |[],vs,ff,A,h,_=>by cases vs<;>exact h
 |t::ts,[],ff,A,h,_=>h
 |t::ts,v::vs,ff,A,h,ht=>by
  refine putK_sim ts vs (ff:=(t,v)::ff) (A:=A.set t v) ⟨by rw[List.length_set];exact h.len,fun s x hx=>?_⟩ (fun s hs=>ht s (List.mem_cons_of_mem _ hs))
  rw[Av0] at hx;rw[AqL];cases hb:Nat.beq t s with
  |true=>
   rw[hb] at hx;have:t=s:=Nat.eq_of_beq_eq_true hb;subst this;rw[if_pos ⟨rfl,by rw[h.len];exact ht t (List.mem_cons_self ..)⟩]
   exact hx
  |false=>
   rw[hb] at hx;have:t≠s:=Nat.ne_of_beq_eq_false hb;rw[if_neg (fun e=>this e.1.symm)]
   exact h.get s x hx
theorem okOp_spec{o:AOp}(h:okOp N o=true):∀t∈o.wr,t<N:=by
 intro t ht;have:=List.all_eq_true.1 h t ht;exact Nat.le_of_ble_eq_true this
theorem runK_sim{o:AOp}(h:Rel N ff A)(ho:okOp N o=true)(he:runK' pur call o ff σ=some (ff',σ')):∃A',runA pur call o A σ=some (A',σ')∧Rel N ff' A':=by
 unfold runK' at he;cases hv:evalK ff o.args with
 |none=>rw[hv] at he;cases he
 |some vs=>
  rw[hv] at he;dsimp only at he;cases hs:sem pur call o.k vs σ with
  |none=>rw[hs] at he;cases he
  |some r=>
   obtain⟨rs,σ1⟩:=r;rw[hs] at he;dsimp only at he;unfold runA;rw[AwW h _ _ hv];dsimp only;rw[hs];dsimp only;cases hb:Nat.beq rs.length (o.dst.toList.length+o.ex.length) with
   |true=>
    rw[hb] at he;cases he;rw[if_pos (Nat.eq_of_beq_eq_true hb)];exact⟨_,rfl,putK_sim _ _ h (okOp_spec ho)⟩
   |false=>
    rw[hb] at he;rw[if_neg (Nat.ne_of_beq_eq_false hb)];cases hc:(o.dst.isNone&&o.ex.isEmpty&&o.clr.isEmpty) with
    |true=>
     rw[hc] at he;cases he;simp only[Bool.and_eq_true,List.isEmpty_iff] at hc;rw[if_pos ⟨hc.1.1,hc.1.2,hc.2⟩];exact⟨A,rfl,h⟩
    |false=>rw[hc] at he;cases he
theorem execK_sim{o:AOp}(h:Rel N ff A)(ho:okOp N o=true)(he:execK pur call o ff σ=some (ff',σ')):∃A',execA pur call o A σ=some (A',σ')∧Rel N ff' A':=by
 unfold execK at he;unfold execA;cases hg:o.guard with
 |none=>
  rw[hg] at he;exact runK_sim h ho he
 |some g=>
  obtain⟨t,b⟩:=g;rw[hg] at he;dsimp only at he
  have hw:∀x,AzB (getK ff t) b=some x→AzT A (some (t,b))=some x:=by
   intro x hx;simp only[AzT];cases hgt:getK ff t with
   |none=>rw[hgt] at hx;simp[AzB] at hx
   |some v=>
    rw[hgt] at hx;rw[h.get t v hgt];unfold AzB at hx
    split at hx
    ·rename_i e;cases e;exact hx
    ·rename_i e;cases e;exact hx
    ·cases hx
  cases hwk:AzB (getK ff t) b with
  |none=>rw[hwk] at he;cases he
  |some x=>
   rw[hwk] at he;rw[hw x hwk];cases x with
   |true=>exact runK_sim h ho he
   |false=>
    have he':cond (o.ex.isEmpty&&o.clr.isEmpty) (some (putK o.wr [some AkN] ff,σ)) none=some (ff',σ'):=he;cases hc:(o.ex.isEmpty&&o.clr.isEmpty) with
    |true=>
     rw[hc] at he';cases he';simp only[Bool.and_eq_true,List.isEmpty_iff] at hc;dsimp only;rw[if_pos hc];exact⟨_,rfl,putK_sim _ _ h (okOp_spec ho)⟩
    |false=>rw[hc] at he';cases he'
theorem opsK_sim:∀(os:List AOp) {ff:FF} {A:Frm} {σ:Sto} {e:AExit} {ff':FF} {σ':Sto},Rel N ff A→os.all (okOp N)=true→opsK pur call os ff σ=some (e,ff',σ')→
  e=.normal∧∃A',AjD pur call os A σ=some (A',σ')∧Rel N ff' A'
 |[],ff,A,σ,e,ff',σ',h,_,he=>by cases he;exact⟨rfl,A,rfl,h⟩
 |o::os,ff,A,σ,e,ff',σ',h,ho,he=>by
  simp only[List.all_cons,Bool.and_eq_true] at ho;have he':Option.rec (motive:=fun _=>RX) none (fun r=>opsK pur call os r.1 r.2) (execK pur call o ff σ)=some (e,ff',σ'):=he
  cases hx:execK pur call o ff σ with
  |none=>rw[hx] at he';cases he'
  |some r=>
   obtain⟨ff1,σ1⟩:=r;rw[hx] at he';obtain⟨A1,h1,h2⟩:=execK_sim h ho.1 hx;obtain⟨e1,A',h3,h4⟩:=opsK_sim os h2 ho.2 he';refine⟨e1,A',?_,h4⟩
   simp only[AjD,h1,h3]
theorem getK_mask(ff:FF):∀(keep:List Bool) (n t:Nat) (v:PV),getK (AqY ff keep n) t=some v→getK ff t=some v∧n≤t∧keep[t - n]?=some true
 |[],n,t,v,h=>by cases h
 |b::keep,n,t,v,h=>by
  have h':getK (cond b ((n,getK ff n)::AqY ff keep (n+1)) (AqY ff keep (n+1))) t=some v:=h
  have rec':getK (AqY ff keep (n+1)) t=some v→getK ff t=some v∧n≤t∧(b::keep)[t - n]?=some true:=by
   intro h;obtain⟨h1,h2,h3⟩:=getK_mask ff keep (n+1) t v h;refine⟨h1,by omega,?_⟩
   rw[show t - n=(t - (n+1))+1 from by omega,List.getElem?_cons_succ];exact h3
  cases b with
  |false=>exact rec' h'
  |true=>
   have h'':cond (Nat.beq n t) (getK ff n) (getK (AqY ff keep (n+1)) t)=some v:=h';cases hb:Nat.beq n t with
   |true=>
    rw[hb] at h'';have:n=t:=Nat.eq_of_beq_eq_true hb;subst this;exact⟨h'',Nat.le_refl _,by simp⟩
   |false=>rw[hb] at h'';exact rec' h''
theorem mask_rel{keep:List Bool}(hk:keep.length=N)(h:Rel N ff A):Rel N (AqY ff keep 0) (mask keep A):=by
 refine⟨by rw[AjH (by rw[hk,h.len])];exact h.len,fun t v hv=>?_⟩
 obtain⟨h1,_,h3⟩:=getK_mask ff keep 0 t v hv;have hg:=h.get t v h1;rw[Nat.sub_zero] at h3;unfold Frm.get at hg ⊢;unfold mask;rw[List.getElem?_zipWith,h3]
 cases ha:A[t]? with
 |none=>rw[ha] at hg;cases hg
 |some x=>rw[ha] at hg;simpa using hg
theorem iterK_sim{keep:List Bool}(hk:keep.length=N){bodyK:FF→Sto→RX}{body:Frm→Sto→Option (AExit×Frm×Sto)}
  (hb:∀ff A σ e ff' σ',Rel N ff A→bodyK ff σ=some (e,ff',σ')→∃A',body A σ=some (e,A',σ')∧Rel N ff' A') :
  ∀(n:Nat) (ff:FF) (A:Frm) (σ:Sto) (e:AExit) (ff':FF) (σ':Sto),Rel N ff A→iterK keep bodyK n ff σ=some (e,ff',σ')→∃A',iter keep body n A σ=some (e,A',σ')∧Rel N ff' A'
 |0,ff,A,σ,e,ff',σ',_,h=>by cases h
 |n+1,ff,A,σ,e,ff',σ',hr,h=>by
  have h':Option.rec (motive:=fun _=>RX) none (fun r=>cond (AxL r.1) (iterK keep bodyK n (AqY r.2.1 keep 0) r.2.2) (some r)) (bodyK ff σ)=some (e,ff',σ'):=h
  cases hx:bodyK ff σ with
  |none=>rw[hx] at h';cases h'
  |some r=>
   obtain⟨e1,ff1,σ1⟩:=r;rw[hx] at h';obtain⟨A1,h1,h2⟩:=hb _ _ _ _ _ _ hr hx;simp only[iter,h1];cases e1 with
   |normal=>exact iterK_sim hk hb n _ _ _ _ _ _ (mask_rel hk h2) h'
   |exit i=>cases h';exact⟨A1,rfl,h2⟩
   |ret=>cases h';exact⟨A1,rfl,h2⟩
theorem arunK_sim{n:Nat}:∀(c:ACode) (ff:FF) (A:Frm) (σ:Sto) (e:AExit) (ff':FF) (σ':Sto),Az9 N c=true→Rel N ff A→arunK pur call n c ff σ=some (e,ff',σ')→
  ∃A',arun pur call n c A σ=some (e,A',σ')∧Rel N ff' A':=by
 intro c
 induction c with
 |skip=>intro ff A σ e ff' σ' _ hr h;cases h;exact⟨A,rfl,hr⟩
 |region ops=>
  intro ff A σ e ff' σ' ho hr h;obtain⟨rfl,A',h1,h2⟩:=opsK_sim ops hr ho h;exact⟨A',by simp only[arun,h1,Option.map_some],h2⟩
 |seq x y ihx ihy=>
  intro ff A σ e ff' σ' ho hr h;simp only[Az9,Bool.and_eq_true] at ho;have h':Option.rec (motive:=fun _=>RX) none (fun r=>cond (AxL r.1) (arunK pur call n y r.2.1 r.2.2) (some r)) (arunK pur call n x ff σ)=some (e,ff',σ'):=h
  cases hx:arunK pur call n x ff σ with
  |none=>rw[hx] at h';cases h'
  |some r=>
   obtain⟨e1,ff1,σ1⟩:=r;rw[hx] at h';obtain⟨A1,h1,h2⟩:=ihx _ _ _ _ _ _ ho.1 hr hx;simp only[arun,h1];cases e1 with
   |normal=>exact ihy _ _ _ _ _ _ ho.2 h2 h'
   |exit i=>cases h';exact⟨A1,rfl,h2⟩
   |ret=>cases h';exact⟨A1,rfl,h2⟩
 |cond c t e iht ihe=>
  intro ff A σ e ff' σ' ho hr h;simp only[Az9,Bool.and_eq_true] at ho;have h':condK (evalK ff [c]) (arunK pur call n t ff σ) (arunK pur call n _ ff σ)=some (e,ff',σ'):=h;unfold condK at h'
  split at h'
  ·rename_i b hb;have:=AwW hr _ _ hb;simp only[arun,this];cases b with
   |true=>exact iht _ _ _ _ _ _ ho.1 hr h'
   |false=>exact ihe _ _ _ _ _ _ ho.2 hr h'
  ·cases h'
 |block id c ih=>
  intro ff A σ e ff' σ' ho hr h;have h':Option.rec (motive:=fun _=>RX) none (fun r=>AExit.rec (motive:=fun _=>RX) (some r) (fun i=>cond (Nat.beq i id) (some (.normal,r.2)) (some r)) (some r) r.1) (arunK pur call n c ff σ)=some (e,ff',σ'):=h
  cases hx:arunK pur call n c ff σ with
  |none=>rw[hx] at h';cases h'
  |some r=>
   obtain⟨e1,ff1,σ1⟩:=r;rw[hx] at h';obtain⟨A1,h1,h2⟩:=ih _ _ _ _ _ _ ho hr hx;simp only[arun,h1];cases e1 with
   |normal=>cases h';exact⟨A1,rfl,h2⟩
   |exit i=>
    have h'':cond (Nat.beq i id) (some (AExit.normal,ff1,σ1)) (some (.exit i,ff1,σ1))=some (e,ff',σ'):=h';cases hb:Nat.beq i id with
    |true=>
     rw[hb] at h'';cases h'';dsimp only;rw[if_pos (Nat.eq_of_beq_eq_true hb)];exact⟨A1,rfl,h2⟩
    |false=>
     rw[hb] at h'';cases h'';dsimp only;rw[if_neg (Nat.ne_of_beq_eq_false hb)];exact⟨A1,rfl,h2⟩
   |ret=>cases h';exact⟨A1,rfl,h2⟩
 |loop keep c ih=>
  intro ff A σ e ff' σ' ho hr h;simp only[Az9,Bool.and_eq_true] at ho;have hk:keep.length=N:=Nat.eq_of_beq_eq_true ho.1;simp only[arun];rw[if_pos (by rw[hk,hr.len])]
  exact iterK_sim hk (fun ff A σ e ff' σ' hr h=>ih ff A σ e ff' σ' ho.2 hr h) n _ _ _ _ _ _ (mask_rel hk hr) h
 |exit id=>intro ff A σ e ff' σ' _ hr h;cases h;exact⟨A,rfl,hr⟩
 |ret=>intro ff A σ e ff' σ' _ hr h;cases h;exact⟨A,rfl,hr⟩
theorem getK_init:∀(args:List PV) (n t:Nat) (v:PV),getK (initK args n) t=some v→n≤t∧args[t - n]?=some v
 |[],n,t,v,h=>by cases h
 |a::args,n,t,v,h=>by
  have h':cond (Nat.beq n t) (some a) (getK (initK args (n+1)) t)=some v:=h;cases hb:Nat.beq n t with
  |true=>
   rw[hb] at h';have:n=t:=Nat.eq_of_beq_eq_true hb;subst this;exact⟨Nat.le_refl _,by simpa using h'⟩
  |false=>
   rw[hb] at h';obtain⟨h1,h2⟩:=getK_init args (n+1) t v h';refine⟨by omega,?_⟩
   rw[show t - n=(t - (n+1))+1 from by omega,List.getElem?_cons_succ];exact h2
theorem resK_sim(h:Rel N ff A):∀(rs:List (Nat×Option Nat)) (vs:List PV),resK ff rs=some vs→AxE A rs=some vs
 |[],vs,hr=>by cases hr;rfl
 |(t,n)::rs,vs,hr=>by
  have hr':(match getK ff t,resK ff rs with | some v,some vs=>if resOk v n then some (v.Aq0::vs) else(Aw9 v n).map fun r=>r::vs | _,_=>none)=some vs:=hr
  split at hr'
  ·rename_i v ws hg hw;simp only[AxE,h.get t v hg,resK_sim h rs ws hw];exact hr'
  ·cases hr'
theorem AJP{n:Nat}{fn:AFunc}{args:List PV}{r:PV×Sto}(ho:Az9 (fn.ntmps+fn.extra) fn.code=true)(h:AkS pur call n fn args σ=some r):runFn pur call n fn args σ=some r:=by
 unfold AkS at h;cases hb:(Nat.beq args.length fn.nargs&&Nat.ble args.length fn.ntmps) with
 |false=>rw[hb] at h;cases h
 |true=>
  rw[hb] at h;simp only[Bool.and_eq_true] at hb;have h1:args.length=fn.nargs:=Nat.eq_of_beq_eq_true hb.1;have h2:args.length≤fn.ntmps:=Nat.le_of_ble_eq_true hb.2;unfold runFn;rw[if_pos ⟨h1,h2⟩]
  have hrel:Rel (fn.ntmps+fn.extra) (initK args 0) (args.map some++List.replicate (fn.ntmps+fn.extra - args.length) none):=by
   refine⟨by simp;omega,fun t v hv=>?_⟩
   obtain⟨_,hv⟩:=getK_init args 0 t v hv;rw[Nat.sub_zero] at hv;have hlt:=(List.getElem?_eq_some_iff.1 hv).1
   unfold Frm.get;rw[List.getElem?_append_left (by simpa using hlt),List.getElem?_map,hv];rfl
  cases hx:arunK pur call n fn.code (initK args 0) σ with
  |none=>rw[hx] at h;cases h
  |some x=>
   obtain⟨e,ff',σ'⟩:=x;rw[hx] at h;obtain⟨A',h3,h4⟩:=arunK_sim fn.code _ _ _ _ _ _ ho hrel hx;rw[h3]
   have fin:((resK ff' fn.results).bind fun vs=>(packR vs).map fun x=>(x,σ'))=some r→((AxE A' fn.results).bind fun vs=>(packR vs).map fun x=>(x,σ'))=some r:=by
    intro hh;obtain⟨vs,hv,hp⟩:=Option.bind_eq_some_iff.1 hh;rw[resK_sim h4 _ _ hv];exact hp
   cases e with
   |normal=>exact fin h
   |exit i=>cases h
   |ret=>exact fin h
def TabOk(P:Program)(pur:FuncId→Bool)(tab:FuncId→Option AFunc):Prop:=
 ∀f af,tab f=some af→∃fn fi,P.funcs[f]?=some fn∧(fn.name == "runtime.NumGoroutine")=false∧AvE P pur fi fn=some af∧Az9 (af.ntmps+af.extra) af.code=true
def AkL(P:Program)(f:FuncId)(g:Prim):Prop:=
 ∀call,Sound P call→∀args σ r σ',(∀p∈args,p.Aq0=p)→g call args σ=some (r,σ')→AvR P f args σ r σ'
theorem Aw0{prim:FuncId→Option Prim}{tab:FuncId→Option AFunc}(hmo:P.follows .mixedOrders=true)(htab:TabOk P pur tab)(hprim:∀f g,prim f=some g→AkL P f g):∀n,Sound P (callK pur prim tab n)
 |0=>by intro f args σ r σ' _ h;cases h
 |n+1=>by
  intro f args σ r σ' hown h;have hS:=Aw0 hmo htab hprim n;have h':Option.rec (motive:=fun _=>Option (PV×Sto)) (Option.rec (motive:=fun _=>Option (PV×Sto)) none (fun fn=>AkS pur (callK pur prim tab n) n fn args σ) (tab f)) (fun g=>g (callK pur prim tab n) args σ) (prim f)=some (r,σ'):=h
  cases hp:prim f with
  |some g=>
   rw[hp] at h';exact hprim f g hp _ hS args σ r σ' hown h'
  |none=>
   rw[hp] at h';dsimp only at h';cases ht:tab f with
   |none=>rw[ht] at h';cases h'
   |some af=>
    rw[ht] at h';obtain⟨fn,fi,h1,h2,h3,h4⟩:=htab f af ht;exact fn_sound hmo h1 h2 h3 hS hown (AJP h4 h')
end
end Go.Abs

namespace Go.Abs.T
abbrev m(d s:Nat):AOp:=⟨none,some d,.p .mv,[.slot s],[],[]⟩
abbrev v(d:Nat)(x:PV):AOp:=⟨none,some d,.p .mv,[.val x],[],[]⟩
abbrev o(d:Nat)(k:AK)(xs:List AArg):AOp:=⟨none,some d,k,xs,[],[]⟩
abbrev u(k:AK)(xs:List AArg):AOp:=⟨none,none,k,xs,[],[]⟩
abbrev g(t:Nat)(b:Bool)(d:Nat)(k:AK)(xs:List AArg):AOp:=⟨some (t,b),some d,k,xs,[],[]⟩
abbrev n(t:Nat)(b:Bool)(d s:Nat):AOp:=⟨some (t,b),some d,.p .mv,[.slot s],[],[]⟩
abbrev e(d:Nat)(k:AK)(xs:List AArg)(ex:List Nat):AOp:=⟨none,some d,k,xs,ex,[]⟩
abbrev h(k:AK)(xs:List AArg)(ex:List Nat):AOp:=⟨none,none,k,xs,ex,[]⟩
abbrev s(n:Nat):AArg:=.slot n
abbrev i(n:Int):AArg:=.val (.int .i64 n)
abbrev b(x:Bool):AArg:=.val (.bool x)
abbrev S(x:List UInt8):PV:=.str x
abbrev I(x:Int):PV:=.int .i64 x
abbrev R(x:List AOp):ACode:=.region x
abbrev q(x y:ACode):ACode:=.seq x y
abbrev C(n:Nat)(x y:ACode):ACode:=.cond (.slot n) x y
abbrev B(n:Nat)(x:ACode):ACode:=.block n x
abbrev L(k:List Bool)(x:ACode):ACode:=.loop k x
abbrev L1:AK:=.r (.ld 1 false)
abbrev L5:AK:=.r (.ld 5 true)
abbrev f(n:Nat):AK:=.p (.fa n 1 false)
abbrev y(x:BinOp):AK:=.p (.bin x 0)
abbrev c(n:Nat):AK:=.c n
abbrev w(n:Nat):AK:=.w (.call n)
abbrev pk:AK:=.p .pick
abbrev t(l:List Bool):List Bool:=true::l
abbrev f1(l:List Bool):List Bool:=false::l
abbrev f2(l:List Bool):List Bool:=false::false::l
abbrev f4(l:List Bool):List Bool:=false::false::false::false::l
abbrev f8(l:List Bool):List Bool:=f4 (f4 l)
abbrev f16(l:List Bool):List Bool:=f8 (f8 l)
abbrev f32(l:List Bool):List Bool:=f16 (f16 l)
end Go.Abs.T
