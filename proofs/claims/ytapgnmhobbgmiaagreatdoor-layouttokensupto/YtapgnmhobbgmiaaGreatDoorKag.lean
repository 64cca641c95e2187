/- A part of the proof: A30 A31 A32 A33 T T0 T3a T1. -/
import Derived.Test.YtapgnmhobbgmiaaGreatDoorKaf
import Derived.Test.YtapgnmhobbgmiaaGreatDoorProg

set_option linter.unusedVariables false
set_option linter.unusedSimpArgs false
namespace Go.Abs
open Go.RowKit
def L8(cs:List PV):List PV ⊕ (KD×PV×(Kx→PV)):=match mapOf (some cs) with
 |some (d,z,ks,vs)=>.inr (d,z,fun x=>(KH x ks vs).getD z)
 |none=>.inl (cs.map PV.Cc)
def Vw(σ τ:Sto):Prop:=σ.map L8=τ.map L8
theorem Jf(d:KD)(z:PV)(ks:List Kx)(vs:List PV):L8 [.mapo d z ks vs]=.inr (d,z,fun x=>(KH x ks vs).getD z):=rfl
theorem Js(cs:List PV):(mapOf (some cs)=none)∨∃d z ks vs,cs=[.mapo d z ks vs]:=by
 unfold mapOf;split
 ·rename_i h;cases h;exact .inr ⟨_,_,_,_,rfl⟩
 ·exact .inl rfl
theorem GV{cs:List PV}(h:mapOf (some cs)=none):L8 cs=.inl (cs.map PV.Cc):=by
 unfold L8;rw[h]
theorem bE{ds cs:List PV}(h:L8 ds=L8 cs):ds.map PV.Cc=cs.map PV.Cc∨∃d z ks vs ks' vs',ds=[.mapo d z ks vs]∧cs=[.mapo d z ks' vs']∧∀x,(KH x ks vs).getD z=(KH x ks' vs').getD z:=by
 rcases Js ds with h1 | ⟨d,z,ks,vs,rfl⟩
 ·rcases Js cs with h2 | ⟨d',z',ks',vs',rfl⟩
  ·rw[GV h1,GV h2] at h;exact .inl (by simpa using h)
  ·rw[GV h1,Jf] at h;cases h
 ·rcases Js cs with h2 | ⟨d',z',ks',vs',rfl⟩
  ·rw[GV h2,Jf] at h;cases h
  ·rw[Jf,Jf] at h;have h:=Sum.inr.inj h;simp only[Prod.mk.injEq] at h;obtain⟨rfl,rfl,h3⟩:=h;exact .inr ⟨_,_,_,_,_,_,rfl,rfl,fun x=>congrFun h3 x⟩
section
variable{P:Program}{pur:FuncId→Bool}{call:Caller}{fi:FI}{cx:Cx}{G:Gh}{a:Act}{w:World}{A A' B:Frm}{σ σ' τ:Sto}{rg:RG}{o:Oper}{ao:AOp}{ops:Array Oper}
theorem FP:∀(ts:List Nat) (vs:List (Option PV)) (A:Frm) (t:Nat),t∉ts→(Dm A ts vs).get t=A.get t
 |[],vs,A,t,_=>by cases vs<;>rfl
 |s::ts,[],A,t,_=>rfl
 |s::ts,v::vs,A,t,h=>by
  rw[Dm,FP ts vs _ t (fun h'=>h (AA _ h')),Dk,if_neg (fun h'=>h (by rw[h'.1];exact AR ..))]
theorem KT:∀(ts:List Nat) (vs:List (Option PV)) (A B:Frm) (t:Nat),A.length=B.length→ts.length≤vs.length→t∈ts→(Dm A ts vs).get t=(Dm B ts vs).get t
 |[],vs,A,B,t,_,_,h=>by cases h
 |s::ts,[],A,B,t,_,h,_=>by simp at h
 |s::ts,v::vs,A,B,t,hl,hv,h=>by
  rw[Dm,Dm];by_cases ht:t∈ts
  ·exact KT ts vs _ _ t (by simp[hl]) (by simpa using hv) ht
  ·rw[FP ts vs _ t ht,FP ts vs _ t ht,Dk,Dk]
   have hts:t=s:=by
    rcases AY.1 h with h | h
    ·exact h
    ·exact absurd h ht
   subst hts;by_cases hlt:t<A.length
   ·rw[if_pos ⟨rfl,hlt⟩,if_pos ⟨rfl,by omega⟩]
   ·rw[if_neg (fun h=>hlt h.2),if_neg (fun h=>hlt (by omega))]
    unfold Frm.get;rw[BD (by omega),BD (by omega)]
theorem Kj:∀(az:List CQ),(∀t∈PX az,B.get t=A.get t)→BS B az=BS A az
 |[],_=>rfl
 |.slot t::az,h=>by
  simp only[BS];rw[h t (AR ..),Kj az (fun t' ht'=>h t' (AA _ ht'))]
 |.val v::az,h=>by
  simp only[BS];rw[Kj az (fun t' ht'=>h t' ht')]
theorem UJ(g:Option (Nat×Bool))(h:∀t b,g=some (t,b)→B.get t=A.get t):Ii B g=Ii A g:=by
 cases g with
 |none=>rfl
 |some x=>
  obtain⟨t,b⟩:=x;simp only[Ii];rw[h t b rfl]
theorem Q4(x:PV):x.Cc.isSelf=x.isSelf:=by cases x<;>rfl
theorem TH(x:PV):x.Cc.isAgg=x.isAgg:=by cases x<;>rfl
theorem MW{x:PV}(h:x.isAgg=false):x.Ae=x.Cc:=by cases x<;>first | rfl | (simp[PV.isAgg] at h)
theorem lK(x:PV):x.Cc.flat=x.flat:=by cases x<;>rfl
theorem dR(l:List PV):(l.map PV.Cc).all PV.flat=l.all PV.flat:=by
 rw[List.all_map];congr 1;funext x;exact lK x
theorem Uw(cs:List PV)(g s:Nat):JH cs g s=JH (cs.map PV.Cc) g s:=by
 match cs with
 |[]=>rfl
 |[x]=>cases x<;>rfl
 |x::y::l=>cases x<;>rfl
theorem mE{cs ds:List PV}(h:ds.map PV.Cc=cs.map PV.Cc)(g s:Nat):JH ds g s=JH cs g s:=by rw[Uw,h,←Uw]
theorem nR{cs ds:List PV}(h:ds.map PV.Cc=cs.map PV.Cc)(off n:Nat)(ag:Bool):(WH ds off n ag).map PV.Ae=(WH cs off n ag).map PV.Ae:=by
 have hl:ds.length=cs.length:=by simpa using congrArg List.length h
 have hsl:((ds.drop off).take n).map PV.Cc=((cs.drop off).take n).map PV.Cc:=by
  rw[List.map_take,List.map_drop,List.map_take,List.map_drop,h]
 cases ag with
 |true=>
  simp only[WH,hl];rw[←dR ((ds.drop off).take n),hsl,dR];split
  ·simp only[AO,PV.Ae,Option.some.injEq,PV.agg.injEq];exact hsl
  ·rfl
 |false=>
  simp only[WH];have hg:=congrArg (fun l=>l[off]?) h
  simp only[Am] at hg;cases hd:ds[off]? with
  |none=>
   rw[hd] at hg;cases hc:cs[off]? with
   |none=>rfl
   |some y=>rw[hc] at hg;simp at hg
  |some x=>
   rw[hd] at hg;cases hc:cs[off]? with
   |none=>rw[hc] at hg;simp at hg
   |some y=>
    rw[hc] at hg;simp only[AO,Option.some.injEq] at hg;have hag:x.isAgg=y.isAgg:=by rw[←TH x,hg,TH]
    have hse:x.isSelf=y.isSelf:=by rw[←Q4 x,hg,Q4]
    dsimp only;rw[hag,hse];cases hy:y.isAgg with
    |true=>rfl
    |false=>
     cases hz:y.isSelf with
     |true=>rfl
     |false=>
      simp only[Bool.or_self,Bool.false_eq_true,if_false,AO];rw[MW (by rw[hag];exact hy),MW hy,hg]
theorem eF{ds cs:List PV}(h:L8 ds=L8 cs)(off n:Nat)(ag:Bool):(WH ds off n ag).map PV.Ae=(WH cs off n ag).map PV.Ae:=by
 rcases bE h with h | ⟨d,z,ks,vs,ks',vs',rfl,rfl,_⟩
 ·exact nR h off n ag
 ·cases ag with
  |true=>
   simp only[WH,DV];by_cases ho:off+n≤1
   ·rcases off with _ | off
    ·rcases n with _ | n
     ·rfl
     ·obtain rfl:n=0:=by omega
      rfl
    ·obtain rfl:n=0:=by omega
     rfl
   ·rw[if_neg (fun h=>ho h.1),if_neg (fun h=>ho h.1)]
  |false=>
   rcases off with _ | off
   ·rfl
   ·rfl
theorem dN{ds cs:List PV}(h:L8 ds=L8 cs)(g s:Nat):JH ds g s=JH cs g s:=by
 rcases bE h with h | ⟨d,z,ks,vs,ks',vs',rfl,rfl,_⟩
 ·exact mE h g s
 ·rfl
theorem ry{σ τ:Sto}(h:Vw τ σ)(id:Nat)(z k:PV)(d:KD):Fq (.lkM z false d) [.mref id,k] τ=Fq (.lkM z false d) [.mref id,k] σ:=by
 have hg:=congrArg (fun l=>l[id]?) h
 simp only[Am] at hg
 have one:∀(ρ:Sto),Fq (.lkM z false d) [.mref id,k] ρ=match(ρ[id]?).map L8,Tw d k with
   |some (.inr (d',z',f)),some x=>if d'=d∧Vz z z'=true then lkR false (f x) true else none
   |_,_=>none:=by
  intro ρ;simp only[Fq];cases hρ:ρ[id]? with
  |none=>simp[mapOf]
  |some cs=>
   rcases Js cs with h1 | ⟨d',z',ks,vs,rfl⟩
   ·rw[h1,AO,GV h1]
   ·rw[AO,Jf]
    show(match some (d',z',ks,vs),Tw d k with
     |some (d',z',ks,vs),some x=>if d'=d∧Vz z z'=true then(match KH x ks vs with | some v=>lkR false v true | none=>lkR false z' false) else none
     |_,_=>none)=_
    cases hk:Tw d k with
    |none=>rfl
    |some x=>
     dsimp only;split
     ·cases hl:KH x ks vs with
      |some v=>rfl
      |none=>rfl
     ·rfl
 rw[one,one,hg]
theorem eT{k:RK}{vs:List PV}(hw:isW (.r k)=true→τ=σ)(h:Vw τ σ):Fq k vs τ=Fq k vs σ:=by
 cases k with
 |ld n ag=>
  match vs with
  |[]=>rfl
  |x::y::l=>cases x<;>rfl
  |[x]=>
   cases x with
   |ref id off=>
    simp only[Fq];have hg:=congrArg (fun l=>l[id]?) h
    simp only[Am] at hg;cases hd:τ[id]? with
    |none=>
     rw[hd] at hg;cases hc:σ[id]? with
     |none=>rfl
     |some y=>rw[hc] at hg;simp at hg
    |some ds=>
     rw[hd] at hg;cases hc:σ[id]? with
     |none=>rw[hc] at hg;simp at hg
     |some cs=>
      rw[hc] at hg;simp only[AO,Option.some.injEq] at hg;have:=eF hg off n ag;dsimp only;have e:∀s:Option PV,(s.map fun v=>[some v.Ae])=(s.map PV.Ae).map fun v=>[some v]:=fun s=>by cases s<;>rfl
      rw[e,e,this]
   |aptr id gen size i off=>
    simp only[Fq];have hg:=congrArg (fun l=>l[id]?) h
    simp only[Am] at hg;cases hd:τ[id]? with
    |none=>
     rw[hd] at hg;cases hc:σ[id]? with
     |none=>rfl
     |some y=>rw[hc] at hg;simp at hg
    |some ds=>
     rw[hd] at hg;cases hc:σ[id]? with
     |none=>rw[hc] at hg;simp at hg
     |some cs=>
      rw[hc] at hg;simp only[AO,Option.some.injEq] at hg;dsimp only;rw[dN hg]
   |_=>rfl
 |lkM z ok d=>
  cases ok with
  |true=>rw[hw rfl]
  |false=>
   match vs with
   |[]=>rfl
   |[x]=>cases x<;>rfl
   |x::y::u::l=>cases x<;>rfl
   |[x,y]=>
    cases x with
    |mref id=>exact ry h id z y d
    |_=>rfl
 |lnM=>rw[hw rfl]
theorem VK{k:AK}{vs:List PV}{rs:List (Option PV)}(hW:isW k=true→τ=σ)(hE:isP k=false→Vw τ σ)(h:sem pur call k vs σ=some (rs,σ')):
  ∃τ',sem pur call k vs τ=some (rs,τ')∧(isW k=true→τ'=σ')∧(isW k=false→τ'=τ):=by
 cases k with
 |p k=>
  simp only[sem] at h ⊢;obtain⟨rs',h1,e⟩:=Ac.1 h;cases e;exact⟨τ,by rw[h1];rfl,fun h=>by simp[isW] at h,fun _=>rfl⟩
 |r k=>
  simp only[sem] at h ⊢;obtain⟨rs',h1,e⟩:=Ac.1 h;cases e;exact⟨τ,by rw[eT hW (hE rfl),h1];rfl,fun h=>hW h,fun _=>rfl⟩
 |w k=>
  have:=hW rfl;subst this;exact⟨σ',h,fun _=>rfl,fun h=>by simp[isW] at h⟩
 |c f=>
  simp only[sem] at h ⊢
  split at h
  ·rename_i hf;rw[if_pos hf];obtain⟨⟨r,σ1⟩,h1,h2⟩:=AL.1 h;dsimp only at h2
   split at h2
   ·rename_i hr;cases h2;refine⟨τ,?_,fun h=>by simp[isW] at h,fun _=>rfl⟩
    rw[h1];simp[hr]
   ·cases h2
  ·cases h
theorem gK(hl:B.length=A.length)(hrd:∀t,t∈ao.rd→B.get t=A.get t)(hW:isW ao.k=true→τ=σ)(hE:isP ao.k=false→Vw τ σ)(h:GM pur call ao A σ=some (A',σ')):
  ∃B' τ',GM pur call ao B τ=some (B',τ')∧B'.length=B.length∧(∀t,t∈ao.wr→B'.get t=A'.get t)∧(∀t,t∉ao.wr→B'.get t=B.get t)∧(isW ao.k=true→τ'=σ')∧(isW ao.k=false→τ'=τ):=by
 have hw:Ii B ao.guard=Ii A ao.guard:=UJ _ fun t b hg=>hrd t (by simp[AOp.rd,hg])
 have he:BS B ao.args=BS A ao.args:=Kj _ fun t ht=>hrd t (by simp only[AOp.rd];exact List.mem_append_right _ ht)
 have fin:∀{B':Frm} {τ':Sto},GM pur call ao B τ=some (B',τ')→B'.length=B.length:=fun h=>Ua h
 unfold GM at h
 split at h
 ·rename_i hwt;unfold BU at h
  split at h
  ·rename_i vs hvs
   split at h
   ·rename_i rs σ1 hs
    have hσ:σ1=σ':=by
     split at h
     ·cases h;rfl
     ·split at h<;>cases h;rfl
    subst hσ;obtain⟨τ',h1,h2,h3⟩:=VK hW hE hs;by_cases hlen:rs.length=ao.dst.toList.length+ao.ex.length
    ·rw[if_pos hlen] at h;cases h
     have hB:GM pur call ao B τ=some (Dm B ao.wr (rs++ao.clr.map fun _=>none),τ'):=by
      unfold GM;rw[hw,hwt];dsimp only;unfold BU;rw[he,hvs];dsimp only;rw[h1];dsimp only;rw[if_pos hlen]
     refine⟨_,τ',hB,fin hB,fun t ht=>KT _ _ _ _ t hl ?_ ht,fun t ht=>FP _ _ _ t ht,h2,h3⟩
     simp only[AOp.wr,Af,Aq];omega
    ·rw[if_neg hlen] at h
     split at h
     ·rename_i hc;cases h
      have hB:GM pur call ao B τ=some (B,τ'):=by
       unfold GM;rw[hw,hwt];dsimp only;unfold BU;rw[he,hvs];dsimp only;rw[h1];dsimp only;rw[if_neg hlen,if_pos hc]
      refine⟨_,τ',hB,rfl,fun t ht=>?_,fun t ht=>rfl,h2,h3⟩
      have:ao.wr=[]:=by
       simp only[AOp.wr,hc.2.1,hc.2.2,Az];have:=hc.1;cases hd:ao.dst with
       |none=>rfl
       |some d=>rw[hd] at this;simp at this
      rw[this] at ht;cases ht
     ·cases h
   ·cases h
  ·cases h
 ·rename_i hwt
  split at h
  ·rename_i hc;cases h
   have hB:GM pur call ao B τ=some (Dm B ao.wr [some JW],τ):=by
    unfold GM;rw[hw,hwt];dsimp only;rw[if_pos hc]
   refine⟨_,τ,hB,fin hB,fun t ht=>KT _ _ _ _ t hl ?_ ht,fun t ht=>FP _ _ _ t ht,hW,fun _=>rfl⟩
   simp only[AOp.wr,hc.1,hc.2,Az];cases ao.dst<;>simp
  ·cases h
 ·cases h
theorem gL(h:GM pur call ao A σ=some (A',σ')):∀t,t∉ao.wr→A'.get t=A.get t:=by
 unfold GM at h
 split at h
 ·unfold BU at h
  split at h
  ·split at h
   ·split at h
    ·cases h;intro t ht;exact FP _ _ _ t ht
    ·split at h
     ·cases h;intro t _;rfl
     ·cases h
   ·cases h
  ·cases h
 ·split at h
  ·cases h;intro t ht;exact FP _ _ _ t ht
  ·cases h
 ·cases h
theorem TZ{T:Sto→Sto→Prop}(hT:∀s,T s s)(h:GM pur call ao A σ=some (A',σ'))(hk:∀vs rs,sem pur call ao.k vs σ=some (rs,σ')→T σ' σ):T σ' σ:=by
 unfold GM at h
 split at h
 ·unfold BU at h
  split at h
  ·split at h
   ·rename_i rs σ1 hs
    split at h
    ·cases h;exact hk _ _ hs
    ·split at h
     ·cases h;exact hk _ _ hs
     ·cases h
   ·cases h
  ·cases h
 ·split at h
  ·cases h;exact hT _
  ·cases h
 ·cases h
theorem ZJ{k:AK}{vs:List PV}{rs:List (Option PV)}(hk:isW k=false)(h:sem pur call k vs σ=some (rs,σ')):σ'=σ:=by
 obtain⟨τ',h1,_,h3⟩:=VK (τ:=σ) (fun _=>rfl) (fun _=>rfl) h
 rw[h] at h1;cases h1;exact h3 hk
theorem jm{cs:List PV}{i:Nat}{p:PV}(h:cs[i]?=some p)(hp:p.Jt=true):mapOf (some cs)=none:=by
 rcases Js cs with h1 | ⟨d,z,ks,vs,rfl⟩
 ·exact h1
 ·cases i with
  |zero=>cases h;cases hp
  |succ i=>simp at h
theorem wh{σ:Sto}{id off:Nat}{cs:List PV}{v:PV}(hσ:σ[id]?=some cs)(hv:cs[off]?=some v)(hag:v.isAgg=false)(hsl:v.Jt=true):Vw (σ.set id (EX cs off [v.Ae])) σ:=by
 unfold Vw;rw[List.map_set];apply Ez;intro k;rw[Ew];split
 ·rename_i e;subst e;have hlt:=(Ad.1 hσ).1;simp only[Aq,hlt,if_true,Am,hσ,AO,Option.some.injEq];have hofs:=(Ad.1 hv);obtain⟨hlo,hve⟩:=hofs
  have hp:(EX cs off [v.Ae])[off]?=some v.Ae:=by
   rw[N8 (by simp;omega),if_pos ⟨Ag _,by simp⟩,Fb];rfl
  rw[GV (jm hv hsl),GV (jm hp (by cases v<;>first | rfl | cases hsl))]
  congr 1;unfold EX;simp only[Ca,Bv,Du,Al,Bo];have e1:v.Ae.Cc=v.Cc:=by rw[MW hag];cases v<;>rfl
  rw[e1,←hve];have key:cs.take off++cs[off]::cs.drop (off+1)=cs:=by rw[←Cq hlo,BK]
  have:=congrArg (List.map PV.Cc) key;rw[Ca,Bv] at this;simpa using this
 ·rfl
theorem Wi(y x:Kx):∀ks:List Kx,GY y (ks++[x])=match GY y ks with | some j=>some j | none=>if x=y then some ks.length else none
 |[]=>by
  simp only[Bj,GY,Bo,Option.map_none]
 |k::ks=>by
  simp only[BI,GY];split
  ·rfl
  ·rw[Wi y x ks];cases GY y ks with
   |some j=>rfl
   |none=>
    by_cases h:x=y
    ·simp[h]
    ·simp[h]
theorem sO{ks:List Kx}{x:Kx}{j:Nat}(h:GY x ks=some j):j<ks.length:=(Ad.1 (Li h)).1
theorem rq{ks:List Kx}{vs:List PV}{x:Kx}{z:PV}(hl:vs.length=ks.length)(y:Kx):(KH y (ks++[x]) (vs++[z])).getD z=(KH y ks vs).getD z:=by
 unfold KH;rw[Wi];cases h:GY y ks with
 |some j=>
  have:=sO h;simp only[Dx];rw[Ak (by omega)]
 |none=>
  by_cases hxy:x=y
  ·simp only[hxy,if_true,Dx,Option.bind_none];rw[←hl,Ao (Ag _),Fb];rfl
  ·simp[hxy]
theorem wo{id:Nat}{d:KD}{z:PV}{ks:List Kx}{vs:List PV}{x:Kx}(hm:mapOf σ[id]?=some (d,z,ks,vs))(hl:vs.length=ks.length):Vw (σ.set id [.mapo d z (ks++[x]) (vs++[z])]) σ:=by
 have hσ:σ[id]?=some [.mapo d z ks vs]:=by
  unfold mapOf at hm
  split at hm
  ·cases hm;assumption
  ·cases hm
 unfold Vw;rw[List.map_set];apply Ez;intro k;rw[Ew];split
 ·rename_i e;subst e;have hlt:=(Ad.1 hσ).1;simp only[Aq,hlt,if_true,Am,hσ,AO,Option.some.injEq];rw[Jf,Jf];congr 3
  funext y
  exact rq hl y
 ·rfl
theorem oM{k:AK}{vs:List PV}{rs:List (Option PV)}(hk:isH k=false)(h:sem pur call k vs σ=some (rs,σ')):Vw σ' σ:=by
 cases k with
 |w k=>
  cases k with
  |ldo=>
   simp only[sem] at h
   match vs,h with
   |[c],h=>
    obtain⟨id,off,cs,v,rfl,h1,h2,h3,e⟩:=jB h;cases e;exact wh h1 h2 (by cases v<;>first | rfl | simp[PV.Jt] at h3) h3
   |[],h=>simp[EW] at h
   |x::y::l,h=>simp[EW] at h
  |enM z d=>
   simp only[sem] at h
   match vs,h with
   |[.mref id,k],h=>
    simp only[EW] at h
    split at h
    ·rename_i d' z' ks ws x hm hx
     split at h
     case isFalse=>cases h
     split at h
     ·split at h
      ·split at h
       ·cases h;rfl
       ·cases h
      ·cases h
     ·split at h
      case isFalse=>cases h
      rename_i hcc;cases h;exact wo hm hcc.2
    ·cases h
  |_=>simp[isH] at hk
 |r k=>
  simp only[sem] at h;obtain⟨rs',h1,e⟩:=Ac.1 h;cases e;rfl
 |_=>
  have:=ZJ (by rfl) h
  rw[this];rfl
theorem Wh(acc:List Nat)(i:Nat):∀(l:List Edge) (s:Nat),(l.foldl (fun s e=>if Region.binds .any e then s ||| 2 ^ e.on ||| acc.getD e.on 0 else s) s).testBit i=true→
  s.testBit i=true∨∃e∈l,Region.binds .any e=true∧(e.on=i∨(acc.getD e.on 0).testBit i=true)
 |[],s,h=>.inl h
 |e::l,s,h=>by
  simp only[EM] at h;rcases Wh acc i l _ h with h | ⟨e',he',h⟩
  ·split at h
   ·rename_i hb;simp only[Nat.testBit_or,CW] at h;rcases h with(h | h) | h
    ·exact .inl h
    ·rw[Nat.testBit_two_pow] at h;exact .inr ⟨e,AR ..,hb,.inl (by simpa using h)⟩
    ·exact .inr ⟨e,AR ..,hb,.inr h⟩
   ·exact .inl h
  ·exact .inr ⟨e',AA _ he',h⟩
theorem Rb:∀(l:List Oper) (pre:List Oper) (acc:List Nat),ops.toList=pre++l→acc.length=pre.length→(∀i j,j<pre.length→(acc.getD j 0).testBit i=true→Ahead ops i j)→
  ∀i j,j<ops.size→((Zh acc l).getD j 0).testBit i=true→Ahead ops i j
 |[],pre,acc,he,hl,h=>by
  intro i j hj hb;refine h i j ?_ hb
  have:=congrArg List.length he;simp at this;omega
 |o::l,pre,acc,he,hl,h=>by
  simp only[Zh];refine Rb l (pre++[o]) _ (by rw[he];simp) (by simp[hl]) fun i j hj hb=>?_
  by_cases hlt:j<pre.length
  ·refine h i j hlt ?_
   rw[AC,Ak (by omega),←AC] at hb
   exact hb
  ·have hj':j=pre.length:=by simp at hj;omega
   subst hj';rw[AC,Ao (by omega),hl] at hb
   simp only[Fb,List.getElem?_cons_zero,Ei,Ww] at hb
   have ho:ops[pre.length]?=some o:=by
    rw[←Ay,he];simp
   intro L hcl hL;have hL':=hL o ho;rw[←EH] at hb;rcases Wh acc i _ _ hb with hb | ⟨e,hemem,hbind,hb⟩
   ·simp at hb
   ·have hemem':e∈o.after:=by simpa using hemem
    rcases hb with rfl | hb
    ·exact hL' e hemem' hbind
    ·have hlt:e.on<pre.length:=by
      rcases Bc e.on pre.length with h' | h'
      ·exact h'
      ·rw[AC,BD (by omega)] at hb
       simp at hb
     exact h i e.on hlt hb L hcl (fun o' ho' e' he' hb'=>hcl e.on o' ho' (hL' e hemem' hbind) e' he' hb')
theorem SV{bits:List Nat}{az:List AOp}:∀(n:Nat),RD bits az n=true→∀i j,i<j→j<n→(bits.getD j 0).testBit i=true∨Zf (az.getD i default) (az.getD j default)=true
 |0,_=>fun i j _ h=>by omega
 |n+1,h=>by
  simp only[RD,Ai] at h;intro i j hij hj;rcases Bc j n with h' | h'
  ·exact SV n h.1 i j hij h'
  ·have:j=n:=by omega
   subst this;have:=Av.1 h.2 i (CU.2 hij);simpa using this
theorem PY:∀(n:Nat),RP ops.toList n=true→∀i o,i<n→ops[i]?=some o→∀e∈o.after,Region.binds .any e=true→e.on<i
 |0,_=>fun i o h=>by omega
 |n+1,h=>by
  simp only[RP,Ai] at h;intro i o hi ho e he hb;rcases Bc i n with h' | h'
  ·exact PY n h.1 i o h' ho e he hb
  ·have:i=n:=by omega
   subst this;have h2:=h.2;rw[Ay,ho] at h2;dsimp only at h2;have:=Array.all_eq_true_iff_forall_mem.1 h2 e he;simp only[hb,DY,Cg,decide_eq_true_eq] at this;exact this
theorem Kk{x y:List Nat}(h:Nt x y=true):∀t,t∈x→t∉y:=by
 intro t ht hy;have:=Av.1 h t ht;simp at this;exact this hy
theorem Rq{az:List AOp}{i j:Nat}(h:Zf (az.getD i default) (az.getD j default)=true):
  NE (fun i=>(az.getD i default).rd) (fun i=>(az.getD i default).wr) (fun i=>isW (az.getD i default).k) (fun i=>isH (az.getD i default).k) (fun i=>isP (az.getD i default).k) i j:=by
 simp only[Zf,Ai] at h;obtain⟨⟨⟨⟨h1,h2⟩,h3⟩,h4⟩,h5⟩:=h;refine⟨Kk h1,Kk h2,Kk h3,fun hw=>?_,fun hw=>?_⟩
 ·simp only[hw,DY,Cg,CW,Ai,ES] at h4;exact h4
 ·simp only[hw,DY,Cg,CW,Ai,ES] at h5;exact h5
theorem Q7:∀(az:List AOp) (A A':Frm) (σ σ':Sto),I1 pur call az A σ=some (A',σ')→
  ∃(F:Nat→Frm) (S:Nat→Sto),F 0=A∧S 0=σ∧F az.length=A'∧S az.length=σ'∧∀i,i<az.length→GM pur call (az.getD i default) (F i) (S i)=some (F (i+1),S (i+1))
 |[],A,A',σ,σ',h=>by
  cases h;exact⟨fun _=>A,fun _=>σ,rfl,rfl,rfl,rfl,fun i h=>by simp at h⟩
 |ao::az,A,A',σ,σ',h=>by
  simp only[I1] at h
  split at h
  ·rename_i A1 σ1 h1;obtain⟨F,S,e1,e2,e3,e4,e5⟩:=Q7 az A1 A' σ1 σ' h;refine⟨fun i=>match i with | 0=>A | i+1=>F i,fun i=>match i with | 0=>σ | i+1=>S i,rfl,rfl,e3,e4,fun i hi=>?_⟩
   cases i with
   |zero=>
    show GM pur call ao A σ=some (F 0,S 0);rw[h1,e1,e2]
   |succ i=>exact e5 i (by simpa using hi)
  ·cases h
theorem yl{k:AK}(h:isW k=true):isP k=false:=by cases k<;>first | rfl | simp[isW] at h
theorem yn{k:AK}(h:isH k=true):isW k=true:=by cases k<;>first | rfl | simp[isH] at h
theorem Xc{ro:Option Nat}{n:Nat}{Q:Exit→Act→World→Prop}(hS:Ig P call)(hx:Ho cx fi)(hmo:P.follows .mixedOrders=true){id:Nat}{draw:Bool}{az:List AOp}(hc:OM P pur fi id ops draw=some az)
  (hex:I1 pur call az A σ=some (A',σ')) (hs:Sim cx a w A σ) {Sl:Nat→Prop} (hsp:∀t,Sl t→∀(i:Nat) (o:Oper),ops[i]?=some o→o.dst≠some t) (hq:∀a' w',Sim cx a' w' A' σ'→(∀t,Sl t→at' a' t=at' a t)→Q .normal a' w'):(Code.region id ops draw).wpIn (FW ro) n P Q a w:=by
 unfold OM at hc
 split at hc
 ·rename_i as' hl;obtain⟨hlen,hspec⟩:=Ob _ _ _ hl;have hlen':as'.length=ops.size:=by simpa using hlen
  have hok:∀(i:Nat) (o:Oper) (ao:AOp),ops[i]?=some o→as'[i]?=some ao→yS P pur fi ops o ao:=fun i o ao ho ha=>hspec i o ao (by rw[Ay];exact ho) ha
  cases draw with
  |false=>
   simp only[Bool.false_eq_true,if_false] at hc;cases hc;refine wpIn_region ?_
   have:=kV (ro:=ro) (n:=n) hS hx hlen' hok hsp hq ops.size 0 (by omega) A σ (by simpa using hex) a w hs (fun _ _=>rfl)
   rw[List.range_eq_range'];exact this
  |true=>
   simp only[if_true] at hc
   split at hc
   ·rename_i hcc;cases hc;simp only[Ai] at hcc;obtain⟨hacy,hpairs⟩:=hcc;obtain⟨F,S,e1,e2,e3,e4,e5⟩:=Q7 _ _ _ _ _ hex;rw[hlen'] at e3 e4 e5;refine wpIn_region_any hmo ?_
    have hlenF:∀i,i≤ops.size→(F i).length=(F 0).length:=by
     intro i
     induction i with
     |zero=>intro _;rfl
     |succ i ih=>intro hi;rw[Ua (e5 i (by omega)),ih (by omega)]
    refine RS (A:=F) (S:=S) (x:=fun i B τ=>GM pur call (az.getD i default) B τ) (rd:=fun i=>(az.getD i default).rd) (wr:=fun i=>(az.getD i default).wr)
     (W:=fun i=>isW (az.getD i default).k) (H:=fun i=>isH (az.getD i default).k) (Pu:=fun i=>isP (az.getD i default).k) (E:=Vw) (Sim:=fun a1 w B τ=>Sim cx a1 w B τ∧∀t,Sl t→at' a1 t=at' a t)
     (fun _=>rfl) (fun _ _ h=>h.symm) (fun _ _ _ h k=>h.trans k)
     (fun i hi hH=>TZ (fun _=>rfl) (e5 i hi) (fun vs rs h=>oM hH h)) hlenF (fun i hi t ht=>gL (e5 i hi) t ht)
     (fun i hi hW=>TZ (T:=fun s t=>s=t) (fun _=>rfl) (e5 i hi) (fun vs rs h=>ZJ hW h))
     (fun i hi h=>yl h) (fun i hi h=>yn h) ?_ ?_ ?_ ?_ ?_ ops.size (Array.replicate ops.size false) (List.range ops.size) (F 0) (S 0) a _ (by simp) (by simp) (fun j hj _=>CU.2 hj) ?_ ?_
    ·intro i hi B τ hBl hrd hW hE;exact gK (by rw[hBl,hlenF i (by omega)]) hrd hW hE (e5 i hi)
    ·intro i j hij hj;rcases SV _ hpairs i j hij hj with h | h
     ·exact .inl (Rb ops.toList [] [] rfl rfl (fun i j h=>by simp at h) i j hj h)
     ·exact .inr (Rq h)
    ·intro i o ho e he hb;have hi:i<ops.size:=(Br.1 ho).1;exact PY ops.size hacy i o hi ho e he hb
    ·intro i hi a1 w B τ B' τ' K hs' hx' hK;have ho:ops[i]?=some ops[i]:=AJ hi
     have ha:az[i]?=some (az.getD i default):=by
      rw[AC,Ah (by omega)];rfl
     exact T9 hS hx ho (hok i _ _ ho ha) hs'.1 hx' fun a' w' h1 h2=>hK a' w' ⟨h1,fun t ht=>(h2 t (hsp t ht i _ ho)).trans (hs'.2 t ht)⟩
    ·intro a' w' hs';rw[e3,e4] at hs';exact hq a' w' hs'.1 hs'.2
    ·have hL:∀j,(Array.replicate ops.size false).getD j false=false:=by
      intro j;by_cases hj:j<ops.size<;>simp[Array.getD,hj]
     refine⟨?_,rfl,fun t=>⟨0,by omega,rfl,fun j hj _=>?_⟩,0,by omega,rfl,fun j hj _=>?_⟩
     ·intro j o ho hLj
      exfalso
      have:(Array.replicate ops.size false).getD j false=true:=hLj;rw[hL] at this;cases this
     ·show(Array.replicate ops.size false).getD j false=true↔_;rw[hL];simp
     ·show(Array.replicate ops.size false).getD j false=true↔_;rw[hL];simp
    ·rw[e1,e2];obtain⟨G,hi⟩:=hs;exact⟨⟨G,hi.drew⟩,fun _ _=>rfl⟩
   ·cases hc
 ·cases hc
end
end Go.Abs

namespace Go.Abs
open Go.RowKit
def Cu.ex:Cu→Exit
 |.normal=>.normal
 |.exit id=>.exit id
 |.ret=>.ret
section
variable{P:Program}{pur:FuncId→Bool}{call:Caller}{fi:FI}{cx:Cx}{G:Gh}{a:Act}{w:World}{A A' B:Frm}{σ σ' τ:Sto}
theorem Jr{keep:List Bool}(h:keep.length=A.length):(mask keep A).length=A.length:=by
 unfold mask;rw[List.length_zipWith];omega
theorem qY{keep:List Bool}{t:Nat}{v:PV}(h:(mask keep A).get t=some v):A.get t=some v:=by
 unfold mask Frm.get at h;rw[C8] at h;unfold Frm.get;cases hk:keep[t]? with
 |none=>rw[hk] at h;simp at h
 |some b=>
  rw[hk] at h;cases ha:A[t]? with
  |none=>rw[ha] at h;simp at h
  |some x=>
   rw[ha] at h;dsimp only at h ⊢
   split at h
   ·exact h
   ·cases h
theorem Zz{keep:List Bool}(hl:keep.length=A.length)(hs:Sim cx a w A σ):Sim cx a w (mask keep A) σ:=by
 obtain⟨G,hi⟩:=hs;exact⟨G,hi.forget (Jr hl) (fun t v h=>qY h)⟩
theorem bW{keep:List Bool}{body:Frm→Sto→Option (Cu×Frm×Sto)}(hb:∀A σ e A' σ',body A σ=some (e,A',σ')→A'.length=A.length):
  ∀(n:Nat) (A:Frm) (σ:Sto) (e:Cu) (A':Frm) (σ':Sto),keep.length=A.length→iter keep body n A σ=some (e,A',σ')→A'.length=A.length
 |0,A,σ,e,A',σ',_,h=>by cases h
 |n+1,A,σ,e,A',σ',hl,h=>by
  simp only[iter] at h
  split at h
  ·rename_i A1 σ1 h1;have:=hb _ _ _ _ _ h1;rw[bW hb n _ _ _ _ _ (by rw[Jr (by omega)];omega) h,Jr (by omega),this]
  ·exact hb _ _ _ _ _ h
theorem ug{m:Nat}:∀(ac:Db) (A:Frm) (σ:Sto) (e:Cu) (A':Frm) (σ':Sto),Hl pur call m ac A σ=some (e,A',σ')→A'.length=A.length:=by
 intro ac
 induction ac with
 |skip=>intro A σ e A' σ' h;simp only[Hl] at h;cases h;rfl
 |region ops=>
  intro A σ e A' σ' h;simp only[Hl] at h;obtain⟨⟨A1,σ1⟩,h1,e1⟩:=Ac.1 h;cases e1;exact Q8 _ h1
 |seq x y ihx ihy=>
  intro A σ e A' σ' h;simp only[Hl] at h
  split at h
  ·rename_i A1 σ1 h1;rw[ihy _ _ _ _ _ h,ihx _ _ _ _ _ h1]
  ·exact ihx _ _ _ _ _ h
 |cond c t e iht ihe=>
  intro A σ e A' σ' h;simp only[Hl] at h
  split at h
  ·exact iht _ _ _ _ _ h
  ·exact ihe _ _ _ _ _ h
  ·cases h
 |block id c ih=>
  intro A σ e A' σ' h;simp only[Hl] at h
  split at h
  ·rename_i i A1 σ1 h1
   split at h<;>(cases h;exact ih _ _ _ _ _ h1)
  ·exact ih _ _ _ _ _ h
 |loop keep c ih=>
  intro A σ e A' σ' h;simp only[Hl] at h
  split at h
  ·rename_i hl;rw[bW (fun A σ e A' σ' h=>ih A σ e A' σ' h) _ _ _ _ _ _ (by rw[Jr hl];exact hl) h,Jr hl]
  ·cases h
 |exit id=>intro A σ e A' σ' h;simp only[Hl] at h;cases h;rfl
 |ret=>intro A σ e A' σ' h;simp only[Hl] at h;cases h;rfl
theorem least{T:Nat→Prop}(h:∃k,T k):∃k,T k∧∀j,T j→k≤j:=by
 obtain⟨k,hk⟩:=h
 induction k using Nat.strongRecOn with
 |_ k ih=>
  by_cases h:∃j,j<k∧T j
  ·obtain⟨j,h1,h2⟩:=h;exact ih j h1 h2
  ·exact⟨k,hk,fun j hj=>Nat.le_of_not_lt fun hlt=>h ⟨j,hlt,hj⟩⟩
def EF(t:Nat):Code→Bool
 |.region _ ops _=>ops.toList.all fun o=>o.dst != some t
 |.seq x y=>EF t x&&EF t y
 |.cond _ x y=>EF t x&&EF t y
 |.block _ c=>EF t c
 |.loop c=>EF t c
 |_=>true
theorem Ir{ro:Option Nat}{n:Nat}(hS:Ig P call)(hx:Ho cx fi)(hmo:P.follows .mixedOrders=true):∀(c:Code) (ac:Db),comp P pur fi c=some ac→
  ∀(m:Nat) (A:Frm) (σ:Sto) (e:Cu) (A':Frm) (σ':Sto),Hl pur call m ac A σ=some (e,A',σ')→∀(a:Act) (w:World),Sim cx a w A σ→
  ∀(Q:Exit→Act→World→Prop),(∀a' w',Sim cx a' w' A' σ'→(∀t,EF t c=true→at' a' t=at' a t)→Q e.ex a' w')→c.wpIn (FW ro) n P Q a w:=by
 intro c
 induction c with
 |skip=>
  intro ac hc m A σ e A' σ' h a w hs Q hq;simp only[comp] at hc;cases hc;simp only[Hl] at h;cases h;exact wpIn_skip (hq a w hs fun _ _=>rfl)
 |region id ops draw=>
  intro ac hc m A σ e A' σ' h a w hs Q hq;simp only[comp] at hc;obtain⟨az,has,rfl⟩:=Ac.1 hc;simp only[Hl] at h;obtain⟨⟨A1,σ1⟩,h1,e1⟩:=Ac.1 h;cases e1
  exact Xc hS hx hmo has h1 hs (Sl:=fun t=>EF t (.region id ops draw)=true) (fun t ht i o ho=>by
   simp only[EF] at ht;have:=Av.1 ht o (Au (by rw[Ay];exact ho))
   simpa using this) hq
 |seq x y ihx ihy=>
  intro ac hc m A σ e A' σ' h a w hs Q hq;simp only[comp] at hc
  split at hc
  ·rename_i ax ay hax hay;cases hc;simp only[Hl] at h;refine wpIn_seq ?_
   split at h
   ·rename_i A1 σ1 h1
    exact ihx ax hax m A σ _ A1 σ1 h1 a w hs _ (fun a' w' hs' hf=>ihy ay hay m A1 σ1 e A' σ' h a' w' hs' Q fun a2 w2 hs2 hf2=>hq a2 w2 hs2 fun t ht=>by
     simp only[EF,Ai] at ht;exact(hf2 t ht.2).trans (hf t ht.1))
   ·rename_i hn;refine ihx ax hax m A σ e A' σ' h a w hs _ (fun a' w' hs' hf=>?_)
    have hf':∀t,EF t (.seq x y)=true→at' a' t=at' a t:=fun t ht=>by
     simp only[EF,Ai] at ht;exact hf t ht.1
    cases e with
    |normal=>exact absurd h (hn A' σ')
    |exit id=>exact hq a' w' hs' hf'
    |ret=>exact hq a' w' hs' hf'
  ·cases hc
 |cond c x y ihx ihy=>
  intro ac hc m A σ e A' σ' h a w hs Q hq;simp only[comp] at hc
  split at hc
  ·rename_i ac' ax ay hac hax hay;cases hc;simp only[Hl] at h;have hs0:=hs;obtain⟨G,hi⟩:=hs
   split at h
   ·rename_i hev;have:=(Bp hi hx.kd hac hev rfl).Ic;exact wpIn_cond_true this (ihx ax hax m A σ e A' σ' h a w hs0 Q fun a' w' hs' hf=>hq a' w' hs' fun t ht=>hf t (by simp only[EF,Ai] at ht;exact ht.1))
   ·rename_i hev;have:=(Bp hi hx.kd hac hev rfl).Ic;exact wpIn_cond_false this (ihy ay hay m A σ e A' σ' h a w hs0 Q fun a' w' hs' hf=>hq a' w' hs' fun t ht=>hf t (by simp only[EF,Ai] at ht;exact ht.2))
   ·cases h
  ·cases hc
 |block id c ih=>
  intro ac hc m A σ e A' σ' h a w hs Q hq;simp only[comp] at hc;obtain⟨ac',hac,rfl⟩:=Ac.1 hc;simp only[Hl] at h;refine wpIn_block ?_
  split at h
  ·rename_i i A1 σ1 h1;refine ih ac' hac m A σ _ A1 σ1 h1 a w hs _ (fun a' w' hs' hf=>?_)
   show(if i=id then Q .normal a' w' else Q (.exit i) a' w')
   split at h
   ·rename_i e1;cases h;rw[if_pos e1];exact hq a' w' hs' hf
   ·rename_i e1;cases h;rw[if_neg e1];exact hq a' w' hs' hf
  ·rename_i hn;refine ih ac' hac m A σ e A' σ' h a w hs _ (fun a' w' hs' hf=>?_)
   cases e with
   |normal=>exact hq a' w' hs' hf
   |exit id=>exact absurd h (hn id A' σ')
   |ret=>exact hq a' w' hs' hf
 |loop c ih=>
  intro ac hc m A σ e A' σ' h a w hs Q hq;simp only[comp] at hc;obtain⟨ac',hac,rfl⟩:=Ac.1 hc;simp only[Hl] at h
  split at h
  ·rename_i hl
   let keep:=fi.keep
   let body:=Hl pur call m ac'
   let T:Act→World→Nat→Prop:=fun a w k=>∃A σ,keep.length=A.length∧Sim cx a w A σ∧iter keep body k A σ=some (e,A',σ')
   classical
   let μ:Act→World→Nat:=fun a w=>if hex:∃k,T a w k then(least hex).choose else 0
   refine wpIn_loop (fun a1 w=>(∃k,T a1 w k)∧∀t,EF t (.loop c)=true→at' a1 t=at' a t) μ ⟨⟨m,mask keep A,σ,by rw[Jr hl];exact hl,Zz hl hs,h⟩,fun _ _=>rfl⟩ ?_
   rintro a1 w ⟨hI,hF⟩
   have hμ:μ a1 w=(least hI).choose:=dif_pos hI;obtain⟨A1,σ1,hl1,hs1,hit⟩:=(least hI).choose_spec.1;rw[←hμ] at hit;cases hk:μ a1 w with
   |zero=>rw[hk] at hit;simp[iter] at hit
   |succ k=>
    rw[hk] at hit;simp only[iter] at hit
    split at hit
    ·rename_i A2 σ2 h2;refine ih ac' hac m A1 σ1 _ A2 σ2 h2 a1 w hs1 _ (fun a' w' hs' hf=>?_)
     have hl2:keep.length=A2.length:=by rw[ug _ _ _ _ _ _ h2];exact hl1
     have hT:T a' w' k:=⟨mask keep A2,σ2,by rw[Jr hl2];exact hl2,Zz hl2 hs',hit⟩
     refine⟨⟨⟨k,hT⟩,fun t ht=>(hf t ht).trans (hF t ht)⟩,?_⟩
     have hI':∃k,T a' w' k:=⟨k,hT⟩;have hμ':μ a' w'=(least hI').choose:=dif_pos hI';have:(least hI').choose≤k:=(least hI').choose_spec.2 k hT;omega
    ·rename_i hn;refine ih ac' hac m A1 σ1 e A' σ' hit a1 w hs1 _ (fun a' w' hs' hf=>?_)
     have hf':∀t,EF t (.loop c)=true→at' a' t=at' a t:=fun t ht=>(hf t ht).trans (hF t ht)
     cases e with
     |normal=>exact absurd hit (hn A' σ')
     |exit id=>exact hq a' w' hs' hf'
     |ret=>exact hq a' w' hs' hf'
  ·cases h
 |exit id=>
  intro ac hc m A σ e A' σ' h a w hs Q hq;simp only[comp] at hc;cases hc;simp only[Hl] at h;cases h;exact wpIn_exit (hq a w hs fun _ _=>rfl)
 |ret=>
  intro ac hc m A σ e A' σ' h a w hs Q hq;simp only[comp] at hc;cases hc;simp only[Hl] at h;cases h;exact wpIn_ret (hq a w hs fun _ _=>rfl)
 |_=>intro ac hc;simp[comp] at hc
end
end Go.Abs

namespace Go.Abs
open Go.RowKit
section
variable{P:Program}{pur:FuncId→Bool}{call:Caller}{fi:FI}{cx:Cx}{G:Gh}{a:Act}{w:World}{A A' B:Frm}{σ σ' τ:Sto}
theorem JQ{k:SK}(h:k.Ma=true):k.val=true:=by cases k<;>first | rfl | simp[SK.Ma] at h
theorem YM{t:Nat}(h:fi.kind t≠.plain):t<fi.kd.length:=by
 rcases Bc t fi.kd.length with h' | h'
 ·exact h'
 ·exfalso;apply h
  unfold FI.kind;rw[AC,BD h'];rfl
theorem qH(h:fi.okB=true):∀t m,(∃key,fi.kind t=.ent m key)→∃keys,fi.kind m=.mapb keys:=by
 rintro t m ⟨key,hk⟩
 have:=Av.1 h t (CU.2 (YM (by rw[hk];simp)))
 rw[hk] at this;simp only[Ai] at this;have h1:=this.1
 split at h1
 ·rename_i keys hm;exact⟨keys,hm⟩
 ·cases h1
theorem qG(h:fi.okB=true):∀t t' m key,fi.kind t=.ent m key→fi.kind t'=.ent m key→t=t':=by
 intro t t' m key hk hk';have:=Av.1 h t (CU.2 (YM (by rw[hk];simp)))
 rw[hk] at this;simp only[Ai] at this;have h2:=Av.1 this.2 t' (CU.2 (YM (by rw[hk'];simp)))
 rw[hk'] at h2;simp at h2;exact h2.symm
def bJ(fi:FI)(hok:fi.okB=true)(K:Nat→Prop)(G:Gh)(w:World):Cx:=
 { K,I0:=G.I,w0:=w,bl0:=G.bl,kd:=fi.kind,nt:=fi.nt,al:=fi.alias,ents:=qH hok,uniq:=qG hok }
theorem Bx5(hok:fi.okB=true)(K:Nat→Prop)(G:Gh)(w:World):Ho (bJ fi hok K G w) fi:=⟨fun _=>rfl,rfl,fun _=>rfl⟩
theorem sI{args:List PV}{k t:Nat}{p:PV}(h:Frm.get (args.map some++List.replicate k none) t=some p):args[t]?=some p:=by
 unfold Frm.get at h;by_cases hlt:t<args.length
 ·rw[Ak (by simpa using hlt),Am] at h
  cases ha:args[t]? with
  |none=>rw[ha] at h;cases h
  |some q=>rw[ha] at h;exact h
 ·rw[Ao (by simp;omega)] at h
  split at h
  ·rename_i v hv;have:=Au hv;rw[List.mem_replicate] at this;rw[this.2] at h;cases h
  ·cases h
theorem QX{tag:Tag}{v:Value}{p:PV}(h:p.Ae=p):Eo G w tag v p:=by
 rw[←h];exact Cr p
theorem cu(hok:fi.okB=true){K:Nat→Prop}(hpre:Pre K G w σ){vs:Array Value}{args:List PV}(hargs:FU G.I G.bl w vs.toList args)(hown:∀p∈args,p.Ae=p)(hle:args.length≤fi.nt)
  (hval:∀t,t<args.length→(fi.kind t).val=true) (extra:Nat) :
  Inv (bJ fi hok K G w) G { tmps:=vs++Array.replicate (fi.nt - vs.size) undef,defers:=[] } w (args.map some++List.replicate (fi.nt+extra - args.length) none) σ:=by
 have hvs:vs.size=args.length:=by simpa using hargs.1
 refine⟨rfl,?_,?_,?_,?_,hpre.obj,hpre.len,hpre.abl⟩
 ·show(vs++Array.replicate (fi.nt - vs.size) undef).size=fi.nt
  simp;omega
 ·show fi.nt≤_
  simp;omega
 ·refine⟨fun _ _=>rfl,Same.refl _ _,fun _ _ h=>h,fun _ _ h=>.inl h,hpre.lt,hpre.own,hpre.Klt,Ag _,Bl.le_refl _,rfl,rfl,rfl⟩
 ·intro t p hp;have ha:=sI hp;have hlt:=(Ad.1 ha).1;obtain⟨v,hv,hr⟩:=hargs.2 t p ha
  have hat:at' { tmps:=vs++Array.replicate (fi.nt - vs.size) undef,defers:=[] } t=v:=by
   have hlt':t<vs.size:=by omega
   rw[Ay] at hv;simp only[at',Aj];rw[DC hlt',hv];rfl
  rw[BZ (hval t hlt) hr.free,hat];exact⟨hr,QX (hown p (Au ha))⟩
def eZ(tmps:Array Value):ResultVar→Sem Value
 |.tmp t=>pure (tmps.getD t undef)
 |.cell b t=>do loadVar t (←asAddr (tmps.getD b undef))
theorem eY(fn:Func)(tmps:Array Value):results fn tmps=(do let vs ← fn.results.mapM (eZ tmps);pure (if h:vs.size=1 then vs[0] else .tuple vs)):=rfl
theorem KC(hi:Inv cx G a w A σ)(hx:Ho cx fi):∀(rl:List ResultVar) (rs:List (Nat×Option Nat)) (ps:List PV),IR P fi rl=some rs→F7 A rs=some ps→
  ∃vl:List Value,(rl.mapM (eZ a.tmps)).run P w=.ok vl w∧FU G.I G.bl w vl ps
 |[],rs,ps,hr,hp=>by
  cases hr;cases hp;exact⟨[],rfl,rfl,fun i p h=>by simp at h⟩
 |.tmp t::rl,rs,ps,hr,hp=>by
  simp only[IR] at hr
  split at hr
  ·rename_i hpl;obtain⟨rs',hrs,rfl⟩:=Ac.1 hr;simp only[F7] at hp
   split at hp
   ·rename_i v vs hg hvs
    split at hp
    ·rename_i hf;cases hp;obtain⟨vl,h1,h2⟩:=KC hi hx rl rs' vs hrs hvs;have hsl:=Fx hx.kd hx.nt hpl;have hrep:=((BZ hsl.2 hf).1 (hi.slot t v hg)).1;refine⟨at' a t::vl,?_,by simp[h2.1],fun i p hp=>?_⟩
     ·rw[List.mapM_cons];simp only[eZ,Sem.run_bind,Sem.run_pure,Result.andThen_ok,h1];rfl
     ·cases i with
      |zero=>simp at hp;subst hp;exact⟨_,rfl,hrep.Ae⟩
      |succ i=>simpa using h2.2 i p (by simpa using hp)
    ·simp[LD] at hp
   ·cases hp
  ·cases hr
 |.cell t ty::rl,rs,ps,hr,hp=>by
  simp only[IR] at hr
  split at hr
  ·rename_i n hcell
   split at hr
   ·rename_i hpl;obtain⟨rs',hrs,rfl⟩:=Ac.1 hr;simp only[F7] at hp
    split at hp
    ·rename_i v vs hg hvs
     split at hp
     ·rename_i hf;cases hp;obtain⟨vl,h1,h2⟩:=KC hi hx rl rs' vs hrs hvs;have hk:cx.kd t=.box:=by rw[hx.kd];exact hpl.2
      obtain⟨b,hb,hcells⟩:=(DR hk).1 (hi.slot t v hg)
      have hsub:sub v 0 n true=some v:=by
       cases v with
       |agg cs=>
        simp only[KE,fits,Cy,Ai,beq_iff_eq,PV.cells] at hf;obtain⟨rfl,hf2⟩:=hf;have e:(cs.drop 0).take cs.length=cs:=by simp
        simp only[sub];rw[e,if_pos ⟨by omega,hf2⟩]
       |_=>simp[KE,fits] at hf
      obtain⟨u,hu1,hu2⟩:=IB (P:=P) hcell hcells hsub
      have hld:(loadVar ty ⟨b,0,none⟩).run P w=.ok u w:=by
       simpa [Instr.loadAt,Instr.sureAddr] using hu1
      have hat:a.tmps.getD t undef=.pointer (some ⟨b,0,none⟩):=hb;refine⟨u::vl,?_,by simp[h2.1],fun i p hp=>?_⟩
      ·rw[List.mapM_cons]
       have hres:(eZ a.tmps (.cell t ty)).run P w=.ok u w:=by
        simp only[eZ,Sem.run_bind,hat,asAddr,Sem.run_pure,Result.andThen_ok,hld]
       simp only[Sem.run_bind,hres,Sem.run_pure,Result.andThen_ok,h1]
      ·cases i with
       |zero=>simp at hp;subst hp;exact⟨_,rfl,hu2.Ae⟩
       |succ i=>simpa using h2.2 i p (by simpa using hp)
     ·rename_i hnf;obtain⟨r,hres,e⟩:=Ac.1 hp;cases e;obtain⟨vl,h1,h2⟩:=KC hi hx rl rs' vs hrs hvs;have hk:cx.kd t=.box:=by rw[hx.kd];exact hpl.2
      obtain⟨b,hb,hcells⟩:=(DR hk).1 (hi.slot t v hg);simp only[LD] at hres
      split at hres
      case isFalse=>cases hres
      rename_i hcc;cases hres;cases v with
      |agg cs=>
       simp only[fits,Cy,Ai,beq_iff_eq,PV.cells] at hcc;obtain⟨rfl,hall⟩:=hcc
       have hsub:R6 (.agg cs) 0 cs.length true=some (.aggr cs):=by
        have e:(cs.drop 0).take cs.length=cs:=by simp
        have hno:sub (.agg cs) 0 cs.length true=none:=by
         simp only[sub];rw[e,if_neg]
         rintro⟨_,hf⟩
         refine hnf ?_
         simp only[KE,fits,PV.cells,Cy,beq_self_eq_true];exact hf
        unfold R6;rw[hno]
        simp only
        rw[e,if_pos ⟨by omega,by simpa using hall⟩]
       obtain⟨u,hu1,hu2⟩:=O1 (P:=P) hcell hcells hsub
       have hld:(loadVar ty ⟨b,0,none⟩).run P w=.ok u w:=by
        simpa [Instr.loadAt,Instr.sureAddr] using hu1
       have hat:a.tmps.getD t undef=.pointer (some ⟨b,0,none⟩):=hb;refine⟨u::vl,?_,by simp[h2.1],fun i p hp=>?_⟩
       ·rw[List.mapM_cons]
        have hres:(eZ a.tmps (.cell t ty)).run P w=.ok u w:=by
         simp only[eZ,Sem.run_bind,hat,asAddr,Sem.run_pure,Result.andThen_ok,hld]
        simp only[Sem.run_bind,hres,Sem.run_pure,Result.andThen_ok,h1]
       ·cases i with
        |zero=>simp at hp;subst hp;exact⟨_,rfl,hu2.Ae⟩
        |succ i=>simpa using h2.2 i p (by simpa using hp)
      |_=>simp[fits] at hcc
    ·cases hp
   ·cases hr
  ·cases hr
theorem Ot(hi:Inv cx G a w A σ)(hx:Ho cx fi){fn:Func}{rs:List (Nat×Option Nat)}{ps:List PV}{r:PV}(hr:IR P fi fn.results.toList=some rs)(hp:F7 A rs=some ps)(hpk:DL ps=some r):
  ∃v,(results fn a.tmps).run P w=.ok v w∧Bz G.I G.bl w v r:=by
 obtain⟨vl,h1,h2⟩:=KC (P:=P) hi hx _ _ _ hr hp
 have hrun:(results fn a.tmps).run P w=.ok (if h:vl.toArray.size=1 then vl.toArray[0] else .tuple vl.toArray) w:=by
  rw[eY,Array.mapM_eq_mapM_toList];simp only[Sem.run_bind,Sem.run_map,h1,Result.andThen_ok,Sem.run_pure]
 rw[hrun]
 match ps,hpk,h2 with
 |[p],hpk,h2=>
  cases hpk;obtain⟨v,hv,hrep⟩:=h2.2 0 _ rfl;have hl:=h2.1
  match vl,hl,hv with
  |[u],_,hv=>
   cases hv;exact⟨v,rfl,hrep⟩
 |[],hpk,h2=>
  have hl:=h2.1;have:vl=[]:=Aw.1 (by simpa using hl)
  subst this;simp only[DL] at hpk;cases hpk;exact⟨_,rfl,.tuple rfl fun i p h=>by simp at h⟩
 |p::q::ps',hpk,h2=>
  simp only[DL] at hpk
  split at hpk
  ·rename_i hall;cases hpk;have hl:=h2.1;have hne:¬vl.toArray.size=1:=by simp at hl ⊢;omega
   refine⟨.tuple vl.toArray,by rw[dif_neg hne],.tuple (by simpa using hl) fun i x hx=>?_⟩
   obtain⟨v,hv,hrep⟩:=h2.2 i x hx
   have:vl.toArray.getD i undef=v:=by
    rw[Aj,Dw,hv];rfl
   rw[this];exact hrep.AzR (Av.1 hall x (Au hx))
  ·cases hpk
theorem di{f:FuncId}{fn:Func}{af:Bb}{n:Nat}{args:List PV}{r:PV}(hmo:P.follows .mixedOrders=true)(hfn:P.funcs[f]?=some fn)(hname:(fn.name == "runtime.NumGoroutine")=false)
  (hcf:Ll P pur fi fn=some af) (hS:Ig P call) (hown:∀p∈args,p.Ae=p) (h:jd pur call n af args σ=some (r,σ')):K3 P f args σ r σ':=by
 unfold Ll at hcf
 split at hcf
 ·rename_i c hbody
  split at hcf
  ·rename_i ac rs hac hrs
   split at hcf
   ·cases hcf
   ·rename_i hcc;cases hcf;simp only[not_or,ne_eq,Classical.not_not,Bool.not_eq_false] at hcc;obtain⟨hnt,hok,hvals⟩:=hcc;refine⟨⟨fn,hfn,hname,by rw[hbody];rfl⟩,fun m vs w G K hargs hpre=>?_⟩
    unfold jd at h
    split at h
    ·rename_i hlen;obtain⟨hl1,hl2⟩:=hlen;dsimp only at hl1 hl2 h;have hval:∀t,t<args.length→(fi.kind t).val=true:=fun t ht=>JQ (Av.1 hvals t (CU.2 (by omega)))
     have hinit:=cu hok hpre hargs hown (by omega) hval fi.ps.length
     have hvs:vs.size=args.length:=by simpa using hargs.1
     have hcx:=Bx5 hok K G w
     have hpost:∀e A1 σ1,(e=Cu.normal∨e=Cu.ret)→Hl pur call n ac (args.map some++List.replicate (fn.ntmps+fi.ps.length - args.length) none) σ=some (e,A1,σ1)→
       ((F7 A1 rs).bind fun vs=>(DL vs).map fun r=>(r,σ1))=some (r,σ')→
       CallsIn (FW none) m P f vs w fun e w'=>∃v G',e=.returned v∧Bz G'.I G'.bl w' v r∧Aft K G w σ' G' w':=by
      intro e A1 σ1 he hrun hres;obtain⟨ps,hps,hres⟩:=AL.1 hres;obtain⟨r',hr',e1⟩:=Ac.1 hres;cases e1;refine callsIn_of_wp hfn hbody trivial ?_
      rw[←hnt] at hrun ⊢;refine Ir hS hcx hmo c ac hac n _ σ e A1 σ' hrun _ w ⟨G,hinit⟩ _ (fun a' w' hs' _=>?_)
      obtain⟨G',hi'⟩:=hs';obtain⟨v,hv,hrep⟩:=Ot (P:=P) hi' hcx hrs hps hr';have hb:=hi'.base;have haft:Aft K G w σ' G' w':=⟨hb.keep,hb.same,hb.sub,hb.new,hb.lt,hb.own,hb.grow,hb.bl,hb.os,hb.tape,hb.output,hi'.obj,hi'.len,hi'.abl⟩;rcases he with rfl | rfl
      ·exact⟨hi'.defers,v,hv,v,G',rfl,hrep,haft⟩
      ·exact⟨hi'.defers,v,hv,v,G',rfl,hrep,haft⟩
     split at h
     ·rename_i A1 σ1 hrun;exact hpost _ A1 σ1 (.inl rfl) hrun h
     ·rename_i A1 σ1 hrun;exact hpost _ A1 σ1 (.inr rfl) hrun h
     ·cases h
    ·cases h
  ·cases hcf
 ·cases hcf
end
end Go.Abs

namespace Go.Abs
open Go.RowKit
abbrev FF:=List (Nat×Option PV)
noncomputable section
abbrev RFS:=Option (FF×Sto)
abbrev RX:=Option (Cu×FF×Sto)
def EK(ff:FF)(t:Nat):Option PV:=List.rec (motive:=fun _=>Option PV) none (fun p _ ih=>cond (Nat.beq p.1 t) p.2 ih) ff
def Eu(ff:FF)(az:List CQ):Option (List PV):=
 List.rec (motive:=fun _=>Option (List PV)) (some []) (fun a _ ih=>CQ.rec (motive:=fun _=>Option (List PV))
  (fun t=>Option.rec (motive:=fun _=>Option (List PV)) none (fun v=>Option.rec (motive:=fun _=>Option (List PV)) none (fun vs=>some (v::vs)) ih) (EK ff t))
  (fun v=>Option.rec (motive:=fun _=>Option (List PV)) none (fun vs=>some (v::vs)) ih) a) az
def SQ(ts:List Nat):List (Option PV)→FF→FF:=
 List.rec (motive:=fun _=>List (Option PV)→FF→FF) (fun _ ff=>ff) (fun t _ ih vs ff=>List.rec (motive:=fun _=>FF) ff (fun v vs _=>ih vs ((t,v)::ff)) vs) ts
def Hd(v:Option PV)(b:Bool):Option Bool:=
 match v with
  |some (.bool c)=>some (c==b)
  |some (.tuple [])=>some false
  |_=>none
def J6(pur:FuncId→Bool)(call:Caller)(o:AOp)(ff:FF)(σ:Sto):RFS:=
 Option.rec (motive:=fun _=>RFS) none (fun vs=>
  Option.rec (motive:=fun _=>RFS) none (fun r => 
   cond (Nat.beq r.1.length (o.dst.toList.length+o.ex.length)) (some (SQ o.wr (r.1++o.clr.map fun _=>none) ff,r.2))
    (cond (o.dst.isNone&&o.ex.isEmpty&&o.clr.isEmpty) (some (ff,r.2)) none)) (sem pur call o.k vs σ)) (Eu ff o.args)
def II(pur:FuncId→Bool)(call:Caller)(o:AOp)(ff:FF)(σ:Sto):RFS:=
 Option.rec (motive:=fun _=>RFS) (J6 pur call o ff σ) (fun g => 
  Option.rec (motive:=fun _=>RFS) none (fun b=>cond b (J6 pur call o ff σ) (cond (o.ex.isEmpty&&o.clr.isEmpty) (some (SQ o.wr [some JW] ff,σ)) none)) (Hd (EK ff g.1) g.2)) o.guard
def fJ(pur:FuncId→Bool)(call:Caller)(os:List AOp):FF→Sto→RX:=
 List.rec (motive:=fun _=>FF→Sto→RX) (fun ff σ=>some (.normal,ff,σ)) (fun o _ ih ff σ=>
  Option.rec (motive:=fun _=>RX) none (fun r=>ih r.1 r.2) (II pur call o ff σ)) os
def Gc(e:Cu):Bool:=Cu.rec (motive:=fun _=>Bool) true (fun _=>false) false e
def EC(ff:FF)(keep:List Bool):Nat→FF:=
 List.rec (motive:=fun _=>Nat→FF) (fun _=>[]) (fun b _ ih n=>cond b ((n,EK ff n)::ih (n+1)) (ih (n+1))) keep
def V4(keep:List Bool)(body:FF→Sto→RX)(n:Nat):FF→Sto→RX:=
 Nat.rec (motive:=fun _=>FF→Sto→RX) (fun _ _=>none) (fun _ ih ff σ=>
  Option.rec (motive:=fun _=>RX) none (fun r=>cond (Gc r.1) (ih (EC r.2.1 keep 0) r.2.2) (some r)) (body ff σ)) n
def dI(v:Option (List PV))(x y:RX):RX:=match v with
 |some [.bool b]=>cond b x y
 |_=>none
def Fv(pur:FuncId→Bool)(call:Caller)(n:Nat)(c:Db):FF→Sto→RX:=
 Db.rec (motive:=fun _=>FF→Sto→RX)
  (fun ff σ=>some (.normal,ff,σ))
  (fun ops=>fJ pur call ops)
  (fun _ _ iha ihb ff σ=>Option.rec (motive:=fun _=>RX) none (fun r=>cond (Gc r.1) (ihb r.2.1 r.2.2) (some r)) (iha ff σ))
  (fun c _ _ iht ihe ff σ=>dI (Eu ff [c]) (iht ff σ) (ihe ff σ))
  (fun id _ ih ff σ=>Option.rec (motive:=fun _=>RX) none (fun r=>Cu.rec (motive:=fun _=>RX) (some r) (fun i=>cond (Nat.beq i id) (some (.normal,r.2)) (some r)) (some r) r.1) (ih ff σ))
  (fun keep _ ih ff σ=>V4 keep ih n (EC ff keep 0) σ)
  (fun id ff σ=>some (.exit id,ff,σ))
  (fun ff σ=>some (.ret,ff,σ)) c
def Le(args:List PV):Nat→FF:=List.rec (motive:=fun _=>Nat→FF) (fun _=>[]) (fun a _ ih n=>(n,some a)::ih (n+1)) args
def Gm(ff:FF)(rs:List (Nat×Option Nat)):Option (List PV):=
 List.rec (motive:=fun _=>Option (List PV)) (some []) (fun r _ ih=>match EK ff r.1,ih with
  |some v,some vs=>if KE v r.2 then some (v.Ae::vs) else(LD v r.2).map fun r=>r::vs
  |_,_=>none) rs
def J8(pur:FuncId→Bool)(call:Caller)(n:Nat)(fn:Bb)(args:List PV)(σ:Sto):Option (PV×Sto):=
 cond (Nat.beq args.length fn.nargs&&Nat.ble args.length fn.ntmps)
  (Option.rec (motive:=fun _=>Option (PV×Sto)) none (fun r=>Cu.rec (motive:=fun _=>Option (PV×Sto)) ((Gm r.2.1 fn.results).bind fun vs=>(DL vs).map fun x=>(x,r.2.2)) (fun _=>none)
   ((Gm r.2.1 fn.results).bind fun vs=>(DL vs).map fun x=>(x,r.2.2)) r.1) (Fv pur call n fn.code (Le args 0) σ)) none
def qC(N:Nat)(o:AOp):Bool:=o.wr.all fun t=>Nat.blt t N
def GG(N:Nat):Db→Bool
 |.region ops=>ops.all (qC N)
 |.seq a b=>GG N a&&GG N b
 |.cond _ t e=>GG N t&&GG N e
 |.block _ c=>GG N c
 |.loop keep c=>Nat.beq keep.length N&&GG N c
 |_=>true
abbrev OT:=Caller→List PV→Sto→Option (PV×Sto)
def dK(pur:FuncId→Bool)(prim:FuncId→Option OT)(tab:FuncId→Option Bb)(n:Nat):Caller:=
 Nat.rec (motive:=fun _=>Caller) (fun _ _ _=>none) (fun n ih f args σ=>Option.rec (motive:=fun _=>Option (PV×Sto))
  (Option.rec (motive:=fun _=>Option (PV×Sto)) none (fun fn=>J8 pur ih n fn args σ) (tab f)) (fun g=>g ih args σ) (prim f)) n
end
structure Rel(N:Nat)(ff:FF)(A:Frm):Prop where
 len:A.length=N
 get:∀t v,EK ff t=some v→A.get t=some v
section
variable{P:Program}{pur:FuncId→Bool}{call:Caller}{N:Nat}{ff ff':FF}{A:Frm}{σ σ':Sto}
theorem Lg(p:Nat×Option PV)(ff:FF)(t:Nat):EK (p::ff) t=cond (Nat.beq p.1 t) p.2 (EK ff t):=rfl
theorem Nr(h:Rel N ff A):∀(az:List CQ) (vs:List PV),Eu ff az=some vs→BS A az=some vs
 |[],vs,he=>by cases he;rfl
 |.slot t::az,vs,he=>by
  have he':(Option.rec (motive:=fun _=>Option (List PV)) none (fun v=>Option.rec (motive:=fun _=>Option (List PV)) none (fun vs=>some (v::vs)) (Eu ff az)) (EK ff t))=some vs:=he
  cases hg:EK ff t with
  |none=>rw[hg] at he';cases he'
  |some v=>
   rw[hg] at he';cases hr:Eu ff az with
   |none=>rw[hr] at he';cases he'
   |some ws=>
    rw[hr] at he';cases he';simp only[BS,h.get t v hg,Nr h az ws hr]
 |.val v::az,vs,he=>by
  have he':(Option.rec (motive:=fun _=>Option (List PV)) none (fun vs=>some (v::vs)) (Eu ff az))=some vs:=he
  cases hr:Eu ff az with
  |none=>rw[hr] at he';cases he'
  |some ws=>
   rw[hr] at he';cases he';simp only[BS,Nr h az ws hr,AO]
theorem SN:∀(ts:List Nat) (vs:List (Option PV)) {ff:FF} {A:Frm},Rel N ff A→(∀t∈ts,t<N)→Rel N (SQ ts vs ff) (Dm A ts vs)
 |[],vs,ff,A,h,_=>by cases vs<;>exact h
 |t::ts,[],ff,A,h,_=>h
 |t::ts,v::vs,ff,A,h,ht=>by
  refine SN ts vs (ff:=(t,v)::ff) (A:=A.set t v) ⟨by rw[CV];exact h.len,fun s x hx=>?_⟩ (fun s hs=>ht s (AA _ hs))
  rw[Lg] at hx;rw[Dk];cases hb:Nat.beq t s with
  |true=>
   rw[hb] at hx;have:t=s:=BP hb;subst this;rw[if_pos ⟨rfl,by rw[h.len];exact ht t (AR ..)⟩]
   exact hx
  |false=>
   rw[hb] at hx;have:t≠s:=Nat.ne_of_beq_eq_false hb;rw[if_neg (fun e=>this e.1.symm)]
   exact h.get s x hx
theorem VT{o:AOp}(h:qC N o=true):∀t∈o.wr,t<N:=by
 intro t ht;have:=Av.1 h t ht;exact Nat.le_of_ble_eq_true this
theorem ZN{o:AOp}(h:Rel N ff A)(ho:qC N o=true)(he:J6 pur call o ff σ=some (ff',σ')):∃A',BU pur call o A σ=some (A',σ')∧Rel N ff' A':=by
 unfold J6 at he;cases hv:Eu ff o.args with
 |none=>rw[hv] at he;cases he
 |some vs=>
  rw[hv] at he;dsimp only at he;cases hs:sem pur call o.k vs σ with
  |none=>rw[hs] at he;cases he
  |some r=>
   obtain⟨rs,σ1⟩:=r;rw[hs] at he;dsimp only at he;unfold BU;rw[Nr h _ _ hv];dsimp only;rw[hs];dsimp only;cases hb:Nat.beq rs.length (o.dst.toList.length+o.ex.length) with
   |true=>
    rw[hb] at he;cases he;rw[if_pos (BP hb)];exact⟨_,rfl,SN _ _ h (VT ho)⟩
   |false=>
    rw[hb] at he;rw[if_neg (Nat.ne_of_beq_eq_false hb)];cases hc:(o.dst.isNone&&o.ex.isEmpty&&o.clr.isEmpty) with
    |true=>
     rw[hc] at he;cases he;simp only[Ai,DX] at hc;rw[if_pos ⟨hc.1.1,hc.1.2,hc.2⟩];exact⟨A,rfl,h⟩
    |false=>rw[hc] at he;cases he
theorem lW{o:AOp}(h:Rel N ff A)(ho:qC N o=true)(he:II pur call o ff σ=some (ff',σ')):∃A',GM pur call o A σ=some (A',σ')∧Rel N ff' A':=by
 unfold II at he;unfold GM;cases hg:o.guard with
 |none=>
  rw[hg] at he;exact ZN h ho he
 |some g=>
  obtain⟨t,b⟩:=g;rw[hg] at he;dsimp only at he
  have hw:∀x,Hd (EK ff t) b=some x→Ii A (some (t,b))=some x:=by
   intro x hx;simp only[Ii];cases hgt:EK ff t with
   |none=>rw[hgt] at hx;simp[Hd] at hx
   |some v=>
    rw[hgt] at hx;rw[h.get t v hgt];unfold Hd at hx
    split at hx
    ·rename_i e;cases e;exact hx
    ·rename_i e;cases e;exact hx
    ·cases hx
  cases hwk:Hd (EK ff t) b with
  |none=>rw[hwk] at he;cases he
  |some x=>
   rw[hwk] at he;rw[hw x hwk];cases x with
   |true=>exact ZN h ho he
   |false=>
    have he':cond (o.ex.isEmpty&&o.clr.isEmpty) (some (SQ o.wr [some JW] ff,σ)) none=some (ff',σ'):=he;cases hc:(o.ex.isEmpty&&o.clr.isEmpty) with
    |true=>
     rw[hc] at he';cases he';simp only[Ai,DX] at hc;dsimp only;rw[if_pos hc];exact⟨_,rfl,SN _ _ h (VT ho)⟩
    |false=>rw[hc] at he';cases he'
theorem bD:∀(os:List AOp) {ff:FF} {A:Frm} {σ:Sto} {e:Cu} {ff':FF} {σ':Sto},Rel N ff A→os.all (qC N)=true→fJ pur call os ff σ=some (e,ff',σ')→
  e=.normal∧∃A',I1 pur call os A σ=some (A',σ')∧Rel N ff' A'
 |[],ff,A,σ,e,ff',σ',h,_,he=>by cases he;exact⟨rfl,A,rfl,h⟩
 |o::os,ff,A,σ,e,ff',σ',h,ho,he=>by
  simp only[Dr,Ai] at ho;have he':Option.rec (motive:=fun _=>RX) none (fun r=>fJ pur call os r.1 r.2) (II pur call o ff σ)=some (e,ff',σ'):=he
  cases hx:II pur call o ff σ with
  |none=>rw[hx] at he';cases he'
  |some r=>
   obtain⟨ff1,σ1⟩:=r;rw[hx] at he';obtain⟨A1,h1,h2⟩:=lW h ho.1 hx;obtain⟨e1,A',h3,h4⟩:=bD os h2 ho.2 he';refine⟨e1,A',?_,h4⟩
   simp only[I1,h1,h3]
theorem V8(ff:FF):∀(keep:List Bool) (n t:Nat) (v:PV),EK (EC ff keep n) t=some v→EK ff t=some v∧n≤t∧keep[t - n]?=some true
 |[],n,t,v,h=>by cases h
 |b::keep,n,t,v,h=>by
  have h':EK (cond b ((n,EK ff n)::EC ff keep (n+1)) (EC ff keep (n+1))) t=some v:=h
  have rec':EK (EC ff keep (n+1)) t=some v→EK ff t=some v∧n≤t∧(b::keep)[t - n]?=some true:=by
   intro h;obtain⟨h1,h2,h3⟩:=V8 ff keep (n+1) t v h;refine⟨h1,by omega,?_⟩
   rw[show t - n=(t - (n+1))+1 from by omega,List.getElem?_cons_succ];exact h3
  cases b with
  |false=>exact rec' h'
  |true=>
   have h'':cond (Nat.beq n t) (EK ff n) (EK (EC ff keep (n+1)) t)=some v:=h';cases hb:Nat.beq n t with
   |true=>
    rw[hb] at h'';have:n=t:=BP hb;subst this;exact⟨h'',Ag _,by simp⟩
   |false=>rw[hb] at h'';exact rec' h''
theorem bK{keep:List Bool}(hk:keep.length=N)(h:Rel N ff A):Rel N (EC ff keep 0) (mask keep A):=by
 refine⟨by rw[Jr (by rw[hk,h.len])];exact h.len,fun t v hv=>?_⟩
 obtain⟨h1,_,h3⟩:=V8 ff keep 0 t v hv;have hg:=h.get t v h1;rw[Nat.sub_zero] at h3;unfold Frm.get at hg ⊢;unfold mask;rw[C8,h3];cases ha:A[t]? with
 |none=>rw[ha] at hg;cases hg
 |some x=>rw[ha] at hg;simpa using hg
theorem V3{keep:List Bool}(hk:keep.length=N){bodyK:FF→Sto→RX}{body:Frm→Sto→Option (Cu×Frm×Sto)}
  (hb:∀ff A σ e ff' σ',Rel N ff A→bodyK ff σ=some (e,ff',σ')→∃A',body A σ=some (e,A',σ')∧Rel N ff' A') :
  ∀(n:Nat) (ff:FF) (A:Frm) (σ:Sto) (e:Cu) (ff':FF) (σ':Sto),Rel N ff A→V4 keep bodyK n ff σ=some (e,ff',σ')→∃A',iter keep body n A σ=some (e,A',σ')∧Rel N ff' A'
 |0,ff,A,σ,e,ff',σ',_,h=>by cases h
 |n+1,ff,A,σ,e,ff',σ',hr,h=>by
  have h':Option.rec (motive:=fun _=>RX) none (fun r=>cond (Gc r.1) (V4 keep bodyK n (EC r.2.1 keep 0) r.2.2) (some r)) (bodyK ff σ)=some (e,ff',σ'):=h
  cases hx:bodyK ff σ with
  |none=>rw[hx] at h';cases h'
  |some r=>
   obtain⟨e1,ff1,σ1⟩:=r;rw[hx] at h';obtain⟨A1,h1,h2⟩:=hb _ _ _ _ _ _ hr hx;simp only[iter,h1];cases e1 with
   |normal=>exact V3 hk hb n _ _ _ _ _ _ (bK hk h2) h'
   |exit i=>cases h';exact⟨A1,rfl,h2⟩
   |ret=>cases h';exact⟨A1,rfl,h2⟩
theorem Wu{n:Nat}:∀(c:Db) (ff:FF) (A:Frm) (σ:Sto) (e:Cu) (ff':FF) (σ':Sto),GG N c=true→Rel N ff A→Fv pur call n c ff σ=some (e,ff',σ')→
  ∃A',Hl pur call n c A σ=some (e,A',σ')∧Rel N ff' A':=by
 intro c
 induction c with
 |skip=>intro ff A σ e ff' σ' _ hr h;cases h;exact⟨A,rfl,hr⟩
 |region ops=>
  intro ff A σ e ff' σ' ho hr h;obtain⟨rfl,A',h1,h2⟩:=bD ops hr ho h;exact⟨A',by simp only[Hl,h1,AO],h2⟩
 |seq x y ihx ihy=>
  intro ff A σ e ff' σ' ho hr h;simp only[GG,Ai] at ho;have h':Option.rec (motive:=fun _=>RX) none (fun r=>cond (Gc r.1) (Fv pur call n y r.2.1 r.2.2) (some r)) (Fv pur call n x ff σ)=some (e,ff',σ'):=h
  cases hx:Fv pur call n x ff σ with
  |none=>rw[hx] at h';cases h'
  |some r=>
   obtain⟨e1,ff1,σ1⟩:=r;rw[hx] at h';obtain⟨A1,h1,h2⟩:=ihx _ _ _ _ _ _ ho.1 hr hx;simp only[Hl,h1];cases e1 with
   |normal=>exact ihy _ _ _ _ _ _ ho.2 h2 h'
   |exit i=>cases h';exact⟨A1,rfl,h2⟩
   |ret=>cases h';exact⟨A1,rfl,h2⟩
 |cond c t e iht ihe=>
  intro ff A σ e ff' σ' ho hr h;simp only[GG,Ai] at ho;have h':dI (Eu ff [c]) (Fv pur call n t ff σ) (Fv pur call n _ ff σ)=some (e,ff',σ'):=h;unfold dI at h'
  split at h'
  ·rename_i b hb;have:=Nr hr _ _ hb;simp only[Hl,this];cases b with
   |true=>exact iht _ _ _ _ _ _ ho.1 hr h'
   |false=>exact ihe _ _ _ _ _ _ ho.2 hr h'
  ·cases h'
 |block id c ih=>
  intro ff A σ e ff' σ' ho hr h;have h':Option.rec (motive:=fun _=>RX) none (fun r=>Cu.rec (motive:=fun _=>RX) (some r) (fun i=>cond (Nat.beq i id) (some (.normal,r.2)) (some r)) (some r) r.1) (Fv pur call n c ff σ)=some (e,ff',σ'):=h
  cases hx:Fv pur call n c ff σ with
  |none=>rw[hx] at h';cases h'
  |some r=>
   obtain⟨e1,ff1,σ1⟩:=r;rw[hx] at h';obtain⟨A1,h1,h2⟩:=ih _ _ _ _ _ _ ho hr hx;simp only[Hl,h1];cases e1 with
   |normal=>cases h';exact⟨A1,rfl,h2⟩
   |exit i=>
    have h'':cond (Nat.beq i id) (some (Cu.normal,ff1,σ1)) (some (.exit i,ff1,σ1))=some (e,ff',σ'):=h';cases hb:Nat.beq i id with
    |true=>
     rw[hb] at h'';cases h'';dsimp only;rw[if_pos (BP hb)];exact⟨A1,rfl,h2⟩
    |false=>
     rw[hb] at h'';cases h'';dsimp only;rw[if_neg (Nat.ne_of_beq_eq_false hb)];exact⟨A1,rfl,h2⟩
   |ret=>cases h';exact⟨A1,rfl,h2⟩
 |loop keep c ih=>
  intro ff A σ e ff' σ' ho hr h;simp only[GG,Ai] at ho;have hk:keep.length=N:=BP ho.1;simp only[Hl];rw[if_pos (by rw[hk,hr.len])]
  exact V3 hk (fun ff A σ e ff' σ' hr h=>ih ff A σ e ff' σ' ho.2 hr h) n _ _ _ _ _ _ (bK hk hr) h
 |exit id=>intro ff A σ e ff' σ' _ hr h;cases h;exact⟨A,rfl,hr⟩
 |ret=>intro ff A σ e ff' σ' _ hr h;cases h;exact⟨A,rfl,hr⟩
theorem V9:∀(args:List PV) (n t:Nat) (v:PV),EK (Le args n) t=some v→n≤t∧args[t - n]?=some v
 |[],n,t,v,h=>by cases h
 |a::args,n,t,v,h=>by
  have h':cond (Nat.beq n t) (some a) (EK (Le args (n+1)) t)=some v:=h;cases hb:Nat.beq n t with
  |true=>
   rw[hb] at h';have:n=t:=BP hb;subst this;exact⟨Ag _,by simpa using h'⟩
  |false=>
   rw[hb] at h';obtain⟨h1,h2⟩:=V9 args (n+1) t v h';refine⟨by omega,?_⟩
   rw[show t - n=(t - (n+1))+1 from by omega,List.getElem?_cons_succ];exact h2
theorem ZQ(h:Rel N ff A):∀(rs:List (Nat×Option Nat)) (vs:List PV),Gm ff rs=some vs→F7 A rs=some vs
 |[],vs,hr=>by cases hr;rfl
 |(t,n)::rs,vs,hr=>by
  have hr':(match EK ff t,Gm ff rs with | some v,some vs=>if KE v n then some (v.Ae::vs) else(LD v n).map fun r=>r::vs | _,_=>none)=some vs:=hr
  split at hr'
  ·rename_i v ws hg hw;simp only[F7,h.get t v hg,ZQ h rs ws hw];exact hr'
  ·cases hr'
theorem Sw{n:Nat}{fn:Bb}{args:List PV}{r:PV×Sto}(ho:GG (fn.ntmps+fn.extra) fn.code=true)(h:J8 pur call n fn args σ=some r):jd pur call n fn args σ=some r:=by
 unfold J8 at h;cases hb:(Nat.beq args.length fn.nargs&&Nat.ble args.length fn.ntmps) with
 |false=>rw[hb] at h;cases h
 |true=>
  rw[hb] at h;simp only[Ai] at hb;have h1:args.length=fn.nargs:=BP hb.1;have h2:args.length≤fn.ntmps:=Nat.le_of_ble_eq_true hb.2;unfold jd;rw[if_pos ⟨h1,h2⟩]
  have hrel:Rel (fn.ntmps+fn.extra) (Le args 0) (args.map some++List.replicate (fn.ntmps+fn.extra - args.length) none):=by
   refine⟨by simp;omega,fun t v hv=>?_⟩
   obtain⟨_,hv⟩:=V9 args 0 t v hv;rw[Nat.sub_zero] at hv;have hlt:=(Ad.1 hv).1;unfold Frm.get;rw[Ak (by simpa using hlt),Am,hv];rfl
  cases hx:Fv pur call n fn.code (Le args 0) σ with
  |none=>rw[hx] at h;cases h
  |some x=>
   obtain⟨e,ff',σ'⟩:=x;rw[hx] at h;obtain⟨A',h3,h4⟩:=Wu fn.code _ _ _ _ _ _ ho hrel hx;rw[h3]
   have fin:((Gm ff' fn.results).bind fun vs=>(DL vs).map fun x=>(x,σ'))=some r→((F7 A' fn.results).bind fun vs=>(DL vs).map fun x=>(x,σ'))=some r:=by
    intro hh;obtain⟨vs,hv,hp⟩:=AL.1 hh;rw[ZQ h4 _ _ hv];exact hp
   cases e with
   |normal=>exact fin h
   |exit i=>cases h
   |ret=>exact fin h
def AxS(P:Program)(pur:FuncId→Bool)(tab:FuncId→Option Bb):Prop:=
 ∀f af,tab f=some af→∃fn fi,P.funcs[f]?=some fn∧(fn.name == "runtime.NumGoroutine")=false∧Ll P pur fi fn=some af∧GG (af.ntmps+af.extra) af.code=true
def JE(P:Program)(f:FuncId)(g:OT):Prop:=
 ∀call,Ig P call→∀args σ r σ',(∀p∈args,p.Ae=p)→g call args σ=some (r,σ')→K3 P f args σ r σ'
theorem M5{prim:FuncId→Option OT}{tab:FuncId→Option Bb}(hmo:P.follows .mixedOrders=true)(htab:AxS P pur tab)(hprim:∀f g,prim f=some g→JE P f g):∀n,Ig P (dK pur prim tab n)
 |0=>by intro f args σ r σ' _ h;cases h
 |n+1=>by
  intro f args σ r σ' hown h;have hS:=M5 hmo htab hprim n;have h':Option.rec (motive:=fun _=>Option (PV×Sto)) (Option.rec (motive:=fun _=>Option (PV×Sto)) none (fun fn=>J8 pur (dK pur prim tab n) n fn args σ) (tab f)) (fun g=>g (dK pur prim tab n) args σ) (prim f)=some (r,σ'):=h
  cases hp:prim f with
  |some g=>
   rw[hp] at h';exact hprim f g hp _ hS args σ r σ' hown h'
  |none=>
   rw[hp] at h';dsimp only at h';cases ht:tab f with
   |none=>rw[ht] at h';cases h'
   |some af=>
    rw[ht] at h';obtain⟨fn,fi,h1,h2,h3,h4⟩:=htab f af ht;exact di hmo h1 h2 h3 hS hown (Sw h4 h')
end
end Go.Abs

namespace Go.Abs.T
abbrev m(d s:Nat):AOp:=⟨none,some d,.p .mv,[.slot s],[],[]⟩
abbrev v(d:Nat)(x:PV):AOp:=⟨none,some d,.p .mv,[.val x],[],[]⟩
abbrev o(d:Nat)(k:AK)(xs:List CQ):AOp:=⟨none,some d,k,xs,[],[]⟩
abbrev u(k:AK)(xs:List CQ):AOp:=⟨none,none,k,xs,[],[]⟩
abbrev g(t:Nat)(b:Bool)(d:Nat)(k:AK)(xs:List CQ):AOp:=⟨some (t,b),some d,k,xs,[],[]⟩
abbrev n(t:Nat)(b:Bool)(d s:Nat):AOp:=⟨some (t,b),some d,.p .mv,[.slot s],[],[]⟩
abbrev e(d:Nat)(k:AK)(xs:List CQ)(ex:List Nat):AOp:=⟨none,some d,k,xs,ex,[]⟩
abbrev h(k:AK)(xs:List CQ)(ex:List Nat):AOp:=⟨none,none,k,xs,ex,[]⟩
abbrev s(n:Nat):CQ:=.slot n
abbrev i(n:Int):CQ:=.val (.int .i64 n)
abbrev b(x:Bool):CQ:=.val (.bool x)
abbrev S(x:List UInt8):PV:=.str x
abbrev I(x:Int):PV:=.int .i64 x
abbrev R(x:List AOp):Db:=.region x
abbrev q(x y:Db):Db:=.seq x y
abbrev C(n:Nat)(x y:Db):Db:=.cond (.slot n) x y
abbrev B(n:Nat)(x:Db):Db:=.block n x
abbrev L(k:List Bool)(x:Db):Db:=.loop k x
abbrev L1:AK:=.r (.ld 1 false)
abbrev L5:AK:=.r (.ld 5 true)
abbrev f(n:Nat):AK:=.p (.fa n 1 false)
abbrev y(x:BinOp):AK:=.p (.bin x 0)
abbrev c(n:Nat):AK:=.c n
abbrev w(n:Nat):AK:=.w (.call n)
abbrev pk:AK:=.p .pick
abbrev t(l:List Bool):List Bool:=true::l
abbrev f1(l:List Bool):List Bool:=false::l
abbrev f2(l:List Bool):List Bool:=false::false::l
abbrev f4(l:List Bool):List Bool:=false::false::false::false::l
abbrev f8(l:List Bool):List Bool:=f4 (f4 l)
abbrev f16(l:List Bool):List Bool:=f8 (f8 l)
abbrev f32(l:List Bool):List Bool:=f16 (f16 l)
end Go.Abs.T

namespace Go.Abs.Z
open Go.Abs.T
abbrev pL:SK:=.plain
abbrev iM:SK:=.imm
def kS:Nat→Nat→List SK
 |0,_=>[]
 |l+1,n=>(match n % 4 with | 0=>.plain | 1=>.imm | 2=>.box | _=>.obj)::kS l (n / 4)
def bS:Nat→Nat→List Bool
 |0,_=>[]
 |l+1,n=>Nat.beq (n % 2) 1::bS l (n / 2)
def fI(l k m nt:Nat)(md:List (Nat×Nat×Nat))(al:List (Nat×Nat):=[])(ps:List (Nat×Nat×Nat):=[]):FI:={ kd:=kS l k,al:=al,keep:=bif Nat.beq m 0 then[] else bS nt m,nt:=nt,ps:=ps,bt:=some (101,5),md:=md }
def pur(f:FuncId):Bool:=!([31,32,33,34,35,36,37,38,41,42,43,62,70,71,72,76,78,79,80,81,82,83,84,85,88,89,90,91,92,93,94,95,111,116,124,126,129,130,131,134,137,139,151,152,153,154,155,156,157,158,159,160,179,180,182,222,225,226,227,228,229,230,231,232,233,234,235,239,240,243,256,258,259,260,261,262,263,268,269,271,272,273,274,275,276,277,280,281,282,283,284,285,286,287,291,292,293,294,295,296,297]:List Nat).contains f
def fi3:=fI 6 1024 0 82 []
def fi4:=fI 3 16 98 26 []
def fi5:=fI 21 0x11110410410 0 125 []
def fi6:=fI 12 0x410100 0 39 []
def fi7:=fI 5 256 0 35 []
def fi8:=fI 7 4160 0 19 []
def fi9:=fI 4 64 0 17 []
def BqW:=fI 0 0 35 26 []
def BqL:=fI 0 0 0 27 []
def BqH:=fI 0 0 0x3ff000061 41 []
def BqG:=fI 2 4 26 23 []
def BqD:=fI 3 32 0xe700000e5 72 []
def Bv1:=fI 7 4128 0 18 [(5,0,3)]
def Bv0:=fI 7 4128 0 18 [(5,0,3)]
def BkZ:=fI 9 0x25400 0 17 []
def BkY:=fI 9 0x24500 0 17 []
def BkX:=fI 11 0x251400 0 19 []
def AUY:=fI 7 4672 0 40 []
def AUW:=fI 9 65568 0x3800046 45 [] [(22,2)]
def AUP:=fI 5 544 0x3e0714 31 [] [(18,2),(24,2)]
def AUN:=fI 0 0 0 5 [(1,1,4)]
def AUL:=fI 4 80 0 6 []
def AUH:=fI 7 4160 0 25 []
def AUB:=fI 4 64 1896 55 []
def BkW:=fI 9 0x1fc50 0 35 []
def AU9:=fI 0 0 0 10 []
def AU8:=fI 6 1024 0 37 []
def AU7:=fI 0 0 7939 17 []
def AU6:=fI 4 192 88 35 []
def AU5:=fI 0 0 0 14 []
def AU4:=fI 0 0 0 14 []
def AU3:=fI 3 32 61 33 []
def AU2:=fI 8 21536 0 30 []
def AU1:=fI 7 4096 0 55 []
def AU0:=fI 0 0 0 29 []
def AYZ:=fI 12 0xa00000 0 57 [] [(38,11),(47,11),(55,11)]
def AYY:=fI 0 0 0x1fff83823 51 []
def AYX:=fI 0 0 0x3ffc01800000000059 89 []
def AYW:=fI 11 0x125200 307 66 []
def BkV:=fI 4 64 0 41 []
def AYV:=fI 19 0x1419515420 0 164 []
def BkU:=fI 14 0x5120400 0 66 []
def BkT:=fI 16 0x40109400 0 122 []
def BkS:=fI 10 0x42440 0 46 []
def BkR:=fI 5 320 0 23 []
def BkQ:=fI 5 256 0 65 []
def BkP:=fI 2 4 0 13 []
def BkO:=fI 6 1088 0 21 []
def BkN:=fI 6 1344 0 36 []
def BkM:=fI 10 0x92500 0 73 [] [(65,9),(66,9),(68,9),(71,9)]
def BkL:=fI 0 0 0 13 []
def BkK:=fI 4 80 0 17 []
def BkJ:=fI 6 1024 0 43 []
def BkI:=fI 12 0x409400 0 105 []
def BkH:=fI 2 4 0 10 []
def AYU:=fI 3 32 0 10 []
def AYT:=fI 0 0 49 41 []
def AYS:=fI 4 80 0 38 []
def BkG:=fI 4 132 0 10 []
def BkF:=fI 6 1056 0 13 [(3,3,1)]
def AYR:=fI 4 80 44 60 []
def AYQ:=fI 0 0 49 42 []
def AYP:=fI 4 80 0 23 []
def AYO:=fI 0 0 32271 24 []
def AYN:=fI 0 0 0 8 []
def AYM:=fI 0 0 7683 17 []
def AYL:=fI 3 32 21 21 [] [(19,2)]
def AYK:=fI 0 0 3 16 []
def AYJ:=fI 0 0 0 18 []
def AYI:=fI 0 0 0 10 []
def AYH:=fI 0 0 0 11 []
def AYG:=fI 9 81952 0 50 []
def AYF:=fI 0 0 0 10 []
def AYE:=fI 3 32 29 33 []
def AYD:=fI 3 32 0 13 []
def AYC:=fI 3 32 29 30 []
def AYB:=fI 0 0 49 34 []
def AYA:=fI 4 64 0 11 []
def AY9:=fI 9 81952 77 105 []
def AY8:=fI 0 0 0 15 []
def AY7:=fI 7 9504 0 38 []
def AY6:=fI 0 0 0 31 []
def AY5:=fI 0 0 0 30 []
def AY4:=fI 0 0 9 25 []
def AY3:=fI 6 1312 0 38 []
def AY2:=fI 3 32 0x1ffc00d 32 []
def BkE:=fI 12 0x43c010 0x380384 40 []
def BkD:=fI 2 4 0 10 []
def BkC:=fI 13 0x1200400 0 60 []
def BkB:=fI 3 16 0 22 []
def BqV:=fI 0 0 0 11 []
def BqU:=fI 12 0x400040 0x60030001c3ce 58 []
def BqT:=fI 8 16384 28705 29 []
def BqS:=fI 0 0 0 39 []
def BqR:=fI 2 4 0 10 []
def BqQ:=fI 0 0 0 8 []
def BqP:=fI 4 80 0 20 []
def BqO:=fI 2 4 0 47 []
def BqN:=fI 3 16 0 30 []
def BqM:=fI 0 0 0 23 []
def BqK:=fI 0 0 3 22 []
def BqJ:=fI 0 0 0 9 []
def BqI:=fI 7 5700 0 49 []
def AxM:=fI 12 0x500200 0 48 [(7,11,1),(8,0,3)]
def AxL:=fI 4 172 14 46 [] [(15,3),(22,3),(27,3),(33,3),(38,3),(44,3)]
def AxK:=fI 0 0 3 26 []
def AxJ:=fI 0 0 0x3cf9f3cf800000000101 82 []
def AxI:=fI 10 0x50000 0x38006 32 []
def AxH:=fI 2 4 0 4 []
def AxG:=fI 0 0 0x3c00ffc03 40 []
def AxF:=fI 0 0 0x3cf3e00003c00003fffc0043 98 []
def AxE:=fI 0 0 35 19 []
def AxD:=fI 0 0 0 10 []
def AxC:=fI 7 4128 0 24 []
def AxB:=fI 3 32 0 52 []
def AxA:=fI 0 0 0 18 []
def Ax9:=fI 0 0 0 9 []
def Ax8:=fI 0 0 897 14 []
def Ax7:=fI 3 32 0 15 []
def Ax6:=fI 0 0 35 18 []
def Ax5:=fI 0 0 0 19 []
def Ax4:=fI 0 0 0 12 []
def BqF:=fI 9 65536 0x3e7c03861 56 []
def BqE:=fI 0 0 0 11 []
def BqC:=fI 0 0 0 8 []
def BqB:=fI 11 0x200800 0 52 [(2,11,4),(3,0,14),(6,0,14)] [(14,5),(19,5),(26,5),(28,5),(31,5),(32,5),(37,5)]
def BqA:=fI 11 0x300000 0x60000030000000000c07 104 []
def Bq9:=fI 7 4096 0xf9f3e0383 41 []
def Bq8:=fI 0 0 0 9 []
def Bq7:FI:={ kd:=[.plain,.mapb [.i .i64 2,.i .i64 3,.i .i64 4,.i .i64 5,.i .i64 7,.i .i64 8,.i .i64 9,.i .i64 10,.i .i64 11,.i .i64 12,.i .i64 13,.i .i64 14,.i .i64 15,.i .i64 16,.i .i64 17,.i .i64 18,.i .i64 19,.i .i64 20,.i .i64 21,.i .i64 22,.i .i64 23,.i .i64 24,.i .i64 25,.i .i64 26,.i .i64 27,.i .i64 28,.i .i64 29],.plain,.ent 1 (.i .i64 2),.ent 1 (.i .i64 3),.ent 1 (.i .i64 4),.ent 1 (.i .i64 5),.ent 1 (.i .i64 7),.ent 1 (.i .i64 8),.ent 1 (.i .i64 9),.ent 1 (.i .i64 10),.ent 1 (.i .i64 11),.ent 1 (.i .i64 12),.ent 1 (.i .i64 13),.ent 1 (.i .i64 14),.ent 1 (.i .i64 15),.ent 1 (.i .i64 16),.ent 1 (.i .i64 17),.ent 1 (.i .i64 18),.ent 1 (.i .i64 19),.ent 1 (.i .i64 20),.ent 1 (.i .i64 21),.ent 1 (.i .i64 22),.ent 1 (.i .i64 23),.ent 1 (.i .i64 24),.ent 1 (.i .i64 25),.ent 1 (.i .i64 26),.ent 1 (.i .i64 27),.ent 1 (.i .i64 28),.ent 1 (.i .i64 29)],al:=[],keep:=[],nt:=3,ps:=[(1,1,3),(1,2,4),(1,3,5),(1,4,6),(1,5,7),(1,6,8),(1,7,9),(1,8,10),(1,9,11),(1,10,12),(1,11,13),(1,12,14),(1,13,15),(1,14,16),(1,15,17),(1,16,18),(1,17,19),(1,18,20),(1,19,21),(1,20,22),(1,21,23),(1,22,24),(1,23,25),(1,24,26),(1,25,27),(1,26,28),(1,27,29)],bt:=some (101,5),md:=[] }
def Bq6:FI:={ kd:=[.plain,.mapb [.s [111,114],.s [97,110,100],.s [61,61],.s [33,61],.s [60],.s [60,61],.s [62],.s [62,61],.s [43],.s [45],.s [42],.s [47],.s [37]],.plain,.ent 1 (.s [111,114]),.ent 1 (.s [97,110,100]),.ent 1 (.s [61,61]),.ent 1 (.s [33,61]),.ent 1 (.s [60]),.ent 1 (.s [60,61]),.ent 1 (.s [62]),.ent 1 (.s [62,61]),.ent 1 (.s [43]),.ent 1 (.s [45]),.ent 1 (.s [42]),.ent 1 (.s [47]),.ent 1 (.s [37])],al:=[],keep:=[],nt:=3,ps:=[(1,1,3),(1,2,4),(1,3,5),(1,4,6),(1,5,7),(1,6,8),(1,7,9),(1,8,10),(1,9,11),(1,10,12),(1,11,13),(1,12,14),(1,13,15)],bt:=some (101,5),md:=[] }
def Bq5:=fI 0 0 0xe7c0007801fe0000000000000000007e3 143 []
def Bq4:FI:={ kd:=[.plain,.imm,.plain,.plain,.plain,.imm,.plain,.plain,.plain,.plain,.plain,.mapb [.i .i64 0,.i .i64 2,.i .i64 3,.i .i64 4,.i .i64 5,.i .i64 6,.i .i64 7,.i .i64 8,.i .i64 9,.i .i64 10,.i .i64 11,.i .i64 12,.i .i64 13,.i .i64 14,.i .i64 15,.i .i64 16,.i .i64 17,.i .i64 18,.i .i64 19,.i .i64 20,.i .i64 21,.i .i64 22,.i .i64 23,.i .i64 24,.i .i64 25,.i .i64 26,.i .i64 27,.i .i64 28,.i .i64 29],.plain,.plain,.plain,.plain,.plain,.plain,.plain,.plain,.plain,.plain,.plain,.plain,.plain,.plain,.plain,.plain,.plain,.plain,.plain,.plain,.plain,.plain,.plain,.plain,.plain,.plain,.plain,.plain,.plain,.plain,.plain,.plain,.plain,.plain,.plain,.plain,.plain,.plain,.plain,.plain,.plain,.plain,.plain,.plain,.plain,.plain,.plain,.plain,.plain,.plain,.plain,.plain,.plain,.plain,.plain,.plain,.plain,.plain,.plain,.plain,.plain,.plain,.plain,.plain,.plain,.plain,.plain,.plain,.plain,.plain,.plain,.plain,.plain,.plain,.plain,.plain,.plain,.plain,.plain,.plain,.plain,.plain,.plain,.plain,.plain,.plain,.plain,.plain,.plain,.plain,.plain,.plain,.plain,.plain,.plain,.plain,.plain,.plain,.plain,.plain,.plain,.plain,.plain,.plain,.plain,.plain,.plain,.ent 11 (.i .i64 0),.ent 11 (.i .i64 2),.ent 11 (.i .i64 3),.ent 11 (.i .i64 4),.ent 11 (.i .i64 5),.ent 11 (.i .i64 6),.ent 11 (.i .i64 7),.ent 11 (.i .i64 8),.ent 11 (.i .i64 9),.ent 11 (.i .i64 10),.ent 11 (.i .i64 11),.ent 11 (.i .i64 12),.ent 11 (.i .i64 13),.ent 11 (.i .i64 14),.ent 11 (.i .i64 15),.ent 11 (.i .i64 16),.ent 11 (.i .i64 17),.ent 11 (.i .i64 18),.ent 11 (.i .i64 19),.ent 11 (.i .i64 20),.ent 11 (.i .i64 21),.ent 11 (.i .i64 22),.ent 11 (.i .i64 23),.ent 11 (.i .i64 24),.ent 11 (.i .i64 25),.ent 11 (.i .i64 26),.ent 11 (.i .i64 27),.ent 11 (.i .i64 28),.ent 11 (.i .i64 29)],al:=[],keep:=[],nt:=119,ps:=[(4,2,119),(4,6,120),(4,11,121),(4,17,122),(4,25,123),(4,29,124),(4,34,125),(4,39,126),(4,42,127),(4,44,128),(4,46,129),(4,52,130),(4,56,131),(4,64,132),(4,69,133),(4,76,134),(4,81,135),(4,85,136),(4,89,137),(4,92,138),(4,98,139),(4,104,140),(4,109,141),(4,111,142),(4,115,143),(4,118,144),(4,122,145),(4,128,146),(4,135,147)],bt:=some (101,5),md:=[] }
def Bq3:=fI 7 4176 0x1c0000000004 64 []
def Ax3:=fI 26 0xc000000100000 0x1c000181 83 [(22,8,1)]
def Ax2:=fI 5 512 0 24 []
def Ax1:=fI 0 0 0 14 [(1,5,1),(3,0,2)]
def Ax0:=fI 0 0 0 10 []
def AqZ:=fI 6 1024 0 23 []
def AqY:=fI 3 32 0 30 []
def AqX:=fI 9 86048 0 33 []
def AqW:=fI 7 4096 0 37 [(2,13,1)]
def AqV:=fI 5 512 0x7ff0073 34 []
def AqU:=fI 0 0 0 5 []
def AqT:=fI 0 0 0 17 []
def AqS:=fI 0 0 0x1f007 21 []
def AqR:=fI 0 0 0 5 []
def AqQ:=fI 0 0 0 9 []
def AqP:=fI 0 0 0 13 []
def AqO:=fI 0 0 0 9 []
def AqN:=fI 0 0 0 6 []
def AqM:=fI 0 0 0x700000000003 56 []
def AqL:=fI 0 0 0 17 []
def AqK:=fI 0 0 0 9 []
def AqJ:=fI 0 0 0 6 []
def AqI:=fI 0 0 0 26 []
def AqH:=fI 0 0 0 21 []
def Bq2:=fI 0 0 776 24 [(5,7,4)]
def Bq1:=fI 0 0 0xe000e49 36 [(13,2,1)]
def Bq0:=fI 4 80 0 7 []
def AUZ:=fI 4 80 0 13 []
def AUX:=fI 4 80 0 15 []
def AUV:=fI 0 0 0 25 []
def AUU:=fI 2 4 0 4 []
def AUT:=fI 2 4 0 4 []
def AUS:=fI 2 4 0 4 []
def AUR:=fI 0 0 0 5 []
def AUQ:=fI 0 0 0 20 []
def AUO:=fI 0 0 0 13 []
def AqG:=fI 0 0 0x1c00010 36 []
def AqF:=fI 0 0 0 9 []
def AqE:=fI 4 80 0 10 []
def AqD:=fI 0 0 0 9 []
def AqC:=fI 4 64 0 14 []
def AqB:=fI 0 0 0 12 []
def AqA:=fI 0 0 0 11 []
def Aq9:=fI 0 0 0 9 []
def Aq8:=fI 0 0 35 17 []
def Aq7:=fI 10 0x40020 0 51 []
def Aq6:=fI 14 0xa000000 0 52 [] [(38,13),(39,13),(43,13),(50,13)]
def Aq5:=fI 3 32 0 28 []
def Aq4:=fI 3 32 0 57 []
def Aq3:=fI 3 32 0xe00003d 41 []
def Aq2:=fI 4 64 0 22 [(2,8,3)]
def Aq1:FI:={ kd:=[.plain,.mapb [.s [114,101,99,111,114,100],.s [112,114,111,99],.s [118,97,114],.s [105,102],.s [101,108,115,101],.s [119,104,105,108,101],.s [102,111,114],.s [116,111],.s [114,101,116,117,114,110],.s [97,115,115,101,114,116],.s [97,110,100],.s [111,114],.s [110,111,116],.s [116,114,117,101],.s [102,97,108,115,101],.s [105,110,116],.s [98,111,111,108],.s [108,101,110]],.plain,.ent 1 (.s [114,101,99,111,114,100]),.ent 1 (.s [112,114,111,99]),.ent 1 (.s [118,97,114]),.ent 1 (.s [105,102]),.ent 1 (.s [101,108,115,101]),.ent 1 (.s [119,104,105,108,101]),.ent 1 (.s [102,111,114]),.ent 1 (.s [116,111]),.ent 1 (.s [114,101,116,117,114,110]),.ent 1 (.s [97,115,115,101,114,116]),.ent 1 (.s [97,110,100]),.ent 1 (.s [111,114]),.ent 1 (.s [110,111,116]),.ent 1 (.s [116,114,117,101]),.ent 1 (.s [102,97,108,115,101]),.ent 1 (.s [105,110,116]),.ent 1 (.s [98,111,111,108]),.ent 1 (.s [108,101,110])],al:=[],keep:=[],nt:=3,ps:=[(1,1,3),(1,2,4),(1,3,5),(1,4,6),(1,5,7),(1,6,8),(1,7,9),(1,8,10),(1,9,11),(1,10,12),(1,11,13),(1,12,14),(1,13,15),(1,14,16),(1,15,17),(1,16,18),(1,17,19),(1,18,20)],bt:=some (101,5),md:=[] }
def AUM:=fI 0 0 0 8 [(3,0,5),(3,2,1)]
def AUK:=fI 0 0 0 27 [(5,5,1)]
def AUJ:=fI 0 0 0 5 []
def AUI:=fI 5 320 0 27 []
def AUG:=fI 0 0 0 13 []
def AUF:=fI 0 0 0 7 []
def AUE:=fI 0 0 0 9 []
def AUD:=fI 0 0 0 11 []
def AUC:=fI 0 0 0 7 []
def Aq0:=fI 0 0 455 63 []
def z8:=fI 0 0 387 19 []
def zZ:=fI 0 0 0 12 []
def zY:=fI 3 32 0 14 []
def zX:=fI 8 16416 0 27 []
def zW:=fI 3 32 0 14 []
def zV:=fI 0 0 0 10 []
def zU:=fI 7 5152 0x39c03ff800000000000000185 103 []
def AUA:=fI 0 0 387 19 []
def zT:=fI 0 0 0x3ffc0030f 53 []
def zS:=fI 0 0 0x1c007001c0000000000000000000000000000000000000007eec1f 220 []
def zR:=fI 0 0 0 13 []
def zQ:=fI 8 20512 0 33 []
def zP:=fI 8 37920 0 41 []
def zO:=fI 3 32 0 8 []
def zN:=fI 9 86048 0 37 []
def zM:=fI 7 8224 0 37 []
def zL:=fI 9 81952 0 43 []
def zK:=fI 0 0 0 6 []
def zJ:=fI 0 0 3093 58 []
def zI:=fI 12 0x482000 967 35 []
def zH:=fI 3 32 0 8 []
def zG:=fI 0 0 0 14 []
def zF:=fI 6 1024 0 18 []
def zD:=fI 0 0 0 17 []
def zC:=fI 7 5152 0 42 []
def zB:=fI 0 0 1039 38 []
def zA:=fI 9 70688 0 42 []
def zz:=fI 3 32 0 18 []
def zy:=fI 3 32 0 8 []
def zx:=fI 3 32 0 8 []
def zw:=fI 6 1056 0 23 []
def zu:=fI 12 0x500020 0 101 []
end Go.Abs.Z

namespace Go.Abs.Z
open Go.Proofs
def yT(f:FuncId)(af:Bb):Prop:=∃fn fi,Tryz.prog.funcs[f]?=some fn∧(fn.name == "runtime.NumGoroutine")=false∧Ll Tryz.prog pur fi fn=some af∧GG (af.ntmps+af.extra) af.code=true
end Go.Abs.Z

namespace Go.Abs.Z
noncomputable section
open Go.Proofs
def cA(f:FuncId)(fi:FI):Bb:=match Tryz.prog.funcs[f]? with
 |some fn=>match Ll Tryz.prog pur fi fn with
  |some af=>af
  |none=>⟨0,0,0,[],.skip⟩
 |none=>⟨0,0,0,[],.skip⟩
def chk(f:FuncId)(fi:FI):Bool:=match Tryz.prog.funcs[f]? with
 |some fn=>!(fn.name == "runtime.NumGoroutine")&&(match Ll Tryz.prog pur fi fn with
  |some af=>GG (af.ntmps+af.extra) af.code
  |none=>false)
 |none=>false
theorem AQH{f:FuncId}{fi:FI}(h:chk f fi=true):yT f (cA f fi):=by
 unfold chk at h;unfold cA
 split at h
 ·rename_i fn hf;rw[Ai] at h;obtain⟨h1,h2⟩:=h
  split at h2
  ·rename_i af hc;exact⟨fn,fi,hf,by simpa using h1,hc,h2⟩
  ·cases h2
 ·cases h
def a152:Bb:=cA 152 Ax2
def a164:Bb:=cA 164 AqQ
def Bw6:Bb:=cA 225 AqC
def BwG:Bb:=cA 155 AqZ
def BwB:Bb:=cA 166 AqO
def BwE:Bb:=cA 161 AqT
def a117:Bb:=cA 117 AxK
def Bw7:Bb:=cA 224 AqD
def Zj:Bb:=cA 257 z8
def UG:Bb:=cA 118 AxJ
def a87:Bb:=cA 87 AYA
def a226:Bb:=cA 226 AqB
def a32:Bb:=cA 32 AU5
def Zk:Bb:=cA 135 Ax6
def BwC:Bb:=cA 165 AqP
def Bw2:Bb:=cA 258 zZ
def a78:Bb:=cA 78 AYJ
def a162:Bb:=cA 162 AqS
def a168:Bb:=cA 168 AqM
def BwA:Bb:=cA 172 AqK
def a154:Bb:=cA 154 Ax0
def BwL:Bb:=cA 132 Ax9
def Bw3:Bb:=cA 235 Aq2
def a33:Bb:=cA 33 AU4
def a167:Bb:=cA 167 AqN
def a236:Bb:=cA 236 Aq1
def a171:Bb:=cA 171 AqL
def a60:Bb:=cA 60 AYS
def a119:Bb:=cA 119 AxI
def Bw4:Bb:=cA 231 Aq6
def OQ:Bb:=cA 122 AxG
def Bw9:Bb:=cA 174 AqI
def a82:Bb:=cA 82 AYF
def Jv:Bb:=cA 123 AxF
def iw:Bb:=cA 282 zI
def a41:Bb:=cA 41 AYW
def a227:Bb:=cA 227 AqA
def a70:Bb:=cA 70 AYO
def a89:Bb:=cA 89 AY8
def a86:Bb:=cA 86 AYB
def BwD:Bb:=cA 163 AqR
def a37:Bb:=cA 37 AU0
def a38:Bb:=cA 38 AYZ
def BwJ:Bb:=cA 136 Ax5
def a173:Bb:=cA 173 AqJ
def a228:Bb:=cA 228 Aq9
def BvG:Bb:=cA 296 zw
def BvF:Bb:=cA 297 zu
def a59:Bb:=cA 59 AYT
def BvH:Bb:=cA 295 zx
def a24:Bb:=cA 24 AUL
def mK:Bb:=cA 221 AqG
def a29:Bb:=cA 29 AU8
def a74:Bb:=cA 74 AYM
def a233:Bb:=cA 233 Aq4
def BvZ:Bb:=cA 261 zW
def BvY:Bb:=cA 262 zV
def BvX:Bb:=cA 270 zR
def BvU:Bb:=cA 273 zO
def BvP:Bb:=cA 283 zH
def BvN:Bb:=cA 285 zF
def BvL:Bb:=cA 287 zC
def BvK:Bb:=cA 292 zA
def BvJ:Bb:=cA 293 zz
def BvI:Bb:=cA 294 zy
def a79:Bb:=cA 79 AYI
def a80:Bb:=cA 80 AYH
def a88:Bb:=cA 88 AY9
def a22:Bb:=cA 22 AUP
def a68:Bb:=cA 68 AYQ
def a92:Bb:=cA 92 AY5
def a94:Bb:=cA 94 AY3
def BwK:Bb:=cA 134 Ax7
def BwO:Bb:=cA 120 AxH
def a20:Bb:=cA 20 AUY
def a58:Bb:=cA 58 AYU
def BwP:Bb:=cA 115 AxM
def a116:Bb:=cA 116 AxL
def BwN:Bb:=cA 126 AxD
def NL:Bb:=cA 151 Ax3
def BwH:Bb:=cA 153 Ax1
def a157:Bb:=cA 157 AqX
def a222:Bb:=cA 222 AqF
def a229:Bb:=cA 229 Aq8
def a232:Bb:=cA 232 Aq5
def a234:Bb:=cA 234 Aq3
def Ko:Bb:=cA 256 Aq0
def Bw0:Bb:=cA 260 zX
def Ru:Bb:=cA 263 zU
def PZ:Bb:=cA 268 zT
def BvR:Bb:=cA 276 zL
def a31:Bb:=cA 31 AU6
def a39:Bb:=cA 39 AYY
def a40:Bb:=cA 40 AYX
def a28:Bb:=cA 28 AU9
def a73:Bb:=cA 73 AYN
def a75:Bb:=cA 75 AYL
def a76:Bb:=cA 76 AYK
def UF:Bb:=cA 125 AxE
def iy:Bb:=cA 133 Ax8
def a43:Bb:=cA 43 AYV
def a84:Bb:=cA 84 AYD
def a131:Bb:=cA 131 AxA
def a5:Bb:=cA 5 fi5
def a8:Bb:=cA 8 fi8
def a11:Bb:=cA 11 BqL
def a14:Bb:=cA 14 BqD
def a35:Bb:=cA 35 AU2
def a83:Bb:=cA 83 AYE
def a85:Bb:=cA 85 AYC
def BwM:Bb:=cA 129 AxC
def a3:Bb:=cA 3 fi3
def a4:Bb:=cA 4 fi4
def a6:Bb:=cA 6 fi6
def a7:Bb:=cA 7 fi7
def a9:Bb:=cA 9 fi9
def a10:Bb:=cA 10 BqW
def a12:Bb:=cA 12 BqH
def a13:Bb:=cA 13 BqG
def a21:Bb:=cA 21 AUW
def a23:Bb:=cA 23 AUN
def a25:Bb:=cA 25 AUH
def a26:Bb:=cA 26 AUB
def a30:Bb:=cA 30 AU7
def a34:Bb:=cA 34 AU3
def a36:Bb:=cA 36 AU1
def a67:Bb:=cA 67 AYR
def a69:Bb:=cA 69 AYP
def a81:Bb:=cA 81 AYG
def a90:Bb:=cA 90 AY7
def a91:Bb:=cA 91 AY6
def a93:Bb:=cA 93 AY4
def a95:Bb:=cA 95 AY2
def a130:Bb:=cA 130 AxB
def BwI:Bb:=cA 137 Ax4
def a156:Bb:=cA 156 AqY
def BwF:Bb:=cA 158 AqW
def a159:Bb:=cA 159 AqV
def a160:Bb:=cA 160 AqU
def a175:Bb:=cA 175 AqH
def Bw8:Bb:=cA 223 AqE
def Bw5:Bb:=cA 230 Aq7
def Bw1:Bb:=cA 259 zY
def Fs:Bb:=cA 269 zS
def BvW:Bb:=cA 271 zQ
def BvV:Bb:=cA 272 zP
def BvT:Bb:=cA 274 zN
def BvS:Bb:=cA 275 zM
def BvQ:Bb:=cA 277 zK
def dV:Bb:=cA 281 zJ
def BvO:Bb:=cA 284 zG
def BvM:Bb:=cA 286 zD
def mJ:Bb:=cA 291 zB
end
end Go.Abs.Z
