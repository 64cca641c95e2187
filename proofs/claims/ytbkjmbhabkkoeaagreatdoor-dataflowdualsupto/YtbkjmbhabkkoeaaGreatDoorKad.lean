/- A part of the proof: A23 A24 A25 A26. -/
import Derived.Test.YtbkjmbhabkkoeaaGreatDoorKac

set_option linter.unusedVariables false
set_option linter.unusedSimpArgs false
namespace Go.Abs
open Go.RowKit
section
variable{P:Program}{pur:FuncId→Bool}{call:Caller}{fi:FI}{cx:Cx}{G:Gh}{a:Act}{w:World}{A A':Frm}{σ σ':Sto}
theorem Gr{ao:AOp}{k:PK}(hk:ao.k=.p k)(h:BV pur call ao A σ=some (A',σ')):
  ∃vs rs,BJ A ao.args=some vs∧AJ k vs=some rs∧σ'=σ∧(rs.length=ao.dst.toList.length+ao.ex.length→A'=CV A ao.wr (rs++ao.clr.map fun _=>none)):=by
 unfold BV at h
 split at h
 ·rename_i vs hvs;rw[hk] at h;simp only[sem] at h
  split at h
  ·rename_i rs σ₁ hs;obtain⟨rs',hrs,e⟩:=Ac.1 hs;cases e;refine⟨vs,rs,hvs,hrs,?_,fun hl=>?_⟩
   ·split at h
    ·cases h;rfl
    ·split at h<;>cases h;rfl
   ·rw[if_pos hl] at h;cases h;rfl
  ·cases h
 ·cases h
theorem LK{t:Nat}{p:PV}(h:A.get t=some p):t<A.length:=by
 unfold Frm.get at h
 split at h
 ·rename_i v hv;exact(Ab.1 hv).1
 ·cases h
theorem GV(p:PV):p.Ag.ones=p.ones:=by
 cases p with
 |agg cs=>
  simp only[PV.Ag,PV.ones,PV.cells,ET];congr 1
  funext x
  cases x<;>rfl
 |aggr cs=>
  simp only[PV.Ag,PV.ones,PV.cells,ET];congr 1
  funext x
  cases x<;>rfl
 |_=>rfl
theorem Uq(hi:Inv cx G a w A σ){d off b:Nat}{c p c':PV}(hk:cx.kd d=.box)(hg:A.get d=some c)(hb:at' a d=.pointer (some ⟨b,0,none⟩)){v:Value}(hrep:Bu G.I G.bl w v p)(hok:p.okc=true)(hones:p.ones=true)
  (howns:∀(j:Nat) (q:PV),p.cells[j]?=some q→∀(G:Gh) (w:World) (tag:Tag) (c:Value),Eb G w tag c q) (hu:upd c off p=some c') {t:TypeId} {n:Nat} {ag:Bool} (hn:Ci P t=some (n,ag)) (hv:p.cells.length=n) :
  ∃w',(Instr.storeAt t (.pointer (some ⟨b,off,none⟩)) v).run P w=.ok () w'∧Inv cx G (a.put none undef) w' (A.set d (some c')) σ:=by
 obtain⟨b',hb',hω,hI,cs,elem,hheap,hsz,hall⟩:=(Dz hk).1 (hi.slot d c hg);rw[hb] at hb';cases hb';obtain⟨hc',hle⟩:=Ma hu;have hcl:=IQ.M4 hrep hok;have hvs:v.cells.size=p.cells.length:=by simpa using hcl.1
 have hext:=GJ (G:=G) (w:=w) (X:=fun tg=>tg=.slot d none) hω hI rfl (cs.toList.take off++v.cells.toList++cs.toList.drop (off+v.cells.toList.length)).toArray
 refine⟨_,Fp hn hheap (by omega) (NG hrep hok hones) (by omega),?_⟩
 refine hi.VF (X:=fun tg=>tg=.slot d none) (T:=fun _=>False) (d:=d) (c':=c') none undef (by simp) hk hb ?_ hext (Gi hi.base hω hI _) rfl ?_ (fun _ h=>h.elim) (by simp) ?_
 ·rw[hc'];refine JF hω hI (setRow_heap _ _ _ _ _ _ hheap) hsz hle (by simpa using hvs) ?_ ?_
  ·intro j q hq _;exact(hall j q hq).ext hext (by simp)
  ·intro j q hq;obtain⟨c,hc,hr⟩:=hcl.2 j q hq;exact⟨c,hc,.inl ⟨hr.mono hext.I hext.same hext.bl,howns j q hq ..⟩⟩
 ·intro tg h;exact⟨d,none,h,.inl rfl⟩
 ·intro s q hq;rw[C8] at hq
  split at hq
  ·rename_i h;cases hq;exact .inl ⟨h.1,rfl⟩
  ·rename_i h;exact .inr (.inl ⟨fun e=>h ⟨e,LK hg⟩,id,by simp,hq⟩)
theorem nH(hi:Inv cx G a w A σ)(hkd:∀t,cx.kd t=fi.kind t){o:Oper}{t:TypeId}{s:Nat}{x:Operand}(ho:o.op=.store t (.tmp s) x)(hod:o.dst=none)(hk:cx.kd s=.box){n:Nat}{ag:Bool}(hn:Ci P t=some (n,ag))
  {az:List Ct} (hc:Aq fi [x]=some az) (hrun:BV pur call { dst:=none,k:=.p (.stl 0 n),args:=.slot s::az,ex:=[s] } A σ=some (A',σ')):Gives P cx o a w A' σ':=by
 obtain⟨vs,rs,he,hs,rfl,hA⟩:=Gr rfl hrun;obtain⟨y,zs,rfl,hy,hz⟩:=AL hc;cases hz;obtain⟨c,qs,rfl,_,hq⟩:=Au he;obtain⟨p,qs,rfl,hp,hq⟩:=Au hq;cases hq;obtain⟨hg,_⟩:=Dr he;simp only[AJ] at hs
 split at hs
 ·rename_i hf;obtain⟨hf1,hf2,hf3⟩:=hf;obtain⟨c',hc',e⟩:=Ac.1 hs;cases e;obtain⟨b,hb,_⟩:=(Dz hk).1 (hi.slot s c hg);have hrep:=(Ba hi hkd hy hp (Ij hf2)).Ag;obtain⟨w',hr,hinv⟩:=Uq (P:=P) hi hk hg hb hrep (by rw[F7];exact hf2) (by rw[GV];exact hf3) (fun j q hq=>EO hq) hc' hn (by rw[CP];exact hf1)
  have hev:a.eval (.tmp s)=.pointer (some ⟨b,0,none⟩):=hb;rw[hA rfl];refine .inr ⟨w',?_,G,?_⟩
  ·simp[execOp,ho,hev,hr]
  ·rw[hod];exact hinv
 ·cases hs
theorem Zy(hi:Inv cx G a w A σ)(hkd:∀t,cx.kd t=fi.kind t){o:Oper}{t:TypeId}{s d:Nat}{x:Operand}(ho:o.op=.store t (.tmp s) x)(hod:o.dst=none){n:Nat}{ag:Bool}(hn:Ci P t=some (n,ag))
  {az:List Ct} (hc:Aq fi [x]=some az) (hrun:BV pur call { dst:=none,k:=.p (.stf d n),args:=.slot s::.slot d::az,ex:=[d] } A σ=some (A',σ')):Gives P cx o a w A' σ':=by
 obtain⟨vs,rs,he,hs,rfl,hA⟩:=Gr rfl hrun;obtain⟨y,zs,rfl,hy,hz⟩:=AL hc;cases hz;obtain⟨l,qs,rfl,_,hq⟩:=Au he;obtain⟨c,qs,rfl,_,hq'⟩:=Au hq;obtain⟨p,qs,rfl,hp,hq''⟩:=Au hq';cases hq'';obtain⟨hgs,_⟩:=Dr he;obtain⟨hg,_⟩:=Dr hq;cases l with
 |lref d' off=>
  simp only[AJ] at hs
  split at hs
  ·rename_i hf;obtain⟨rfl,hf1,hf2,hf3⟩:=hf;obtain⟨c',hc',e⟩:=Ac.1 hs;cases e;obtain⟨hk,b,hb,hss⟩:=JX hi hgs;have hrep:=(Ba hi hkd hy hp (Ij hf2)).Ag;obtain⟨w',hr,hinv⟩:=Uq (P:=P) hi hk hg hb hrep (by rw[F7];exact hf2) (by rw[GV];exact hf3) (fun j q hq=>EO hq) hc' hn (by rw[CP];exact hf1)
   have hev:a.eval (.tmp s)=.pointer (some ⟨b,off,none⟩):=hss;rw[hA rfl];refine .inr ⟨w',?_,G,?_⟩
   ·simp[execOp,ho,hev,hr]
   ·rw[hod];exact hinv
  ·cases hs
 |_=>simp[AJ] at hs
theorem UX(hb:Base cx G w){t0 t1:Tag}{v:Value}{p:PV}(ho:Eb G w t0 v p):
  ∃G',G'.I=G.I∧G'.bl=G.bl∧Ext (fun tg=>tg=t0) G G' w w∧Base cx G' w∧Eb G' w t1 v p:=by
 by_cases h:∃sz es,p=.slice true sz es
 ·obtain⟨sz,es,rfl⟩:=h;obtain⟨b,off,cap,cs,elem,rfl,h1,h2,h3,h4,h5,h6,h7⟩:=ho;refine⟨G.retag b t1,rfl,rfl,Uh h1 rfl,SN hb h1,?_⟩
  exact⟨b,off,cap,cs,elem,rfl,by simp[Gh.retag],h2,h3,h4,h5,h6,h7⟩
 ·exact⟨G,rfl,rfl,Ext.refl _ _ _,hb,Lm (fun sz es e=>h ⟨sz,es,e⟩)⟩
theorem Ext.weaken{X Y:Tag→Prop}{G G':Gh}{w w':World}(h:Ext X G G' w w')(hXY:∀tg,X tg→Y tg):Ext Y G G' w w':=
 ⟨h.I,h.same,h.bl,fun id hid hX g=>h.ab id hid (fun j hx=>hX j (hXY _ hx)) g,fun b tag ht hn=>h.fix b tag ht (fun hx=>hn (hXY _ hx))⟩
def PV.Io:PV→Bool
 |.slice _ _ _ | .nils=>true
 |_=>false
theorem I4{p:PV}(h:p.Io=true):p.free=true:=by cases p<;>first | rfl | simp[PV.Io] at h
theorem RB{p:PV}(h:p.Io=true):p.cells=[p]:=by cases p<;>first | rfl | simp[PV.Io] at h
theorem Xx{p:PV}(h:p.Io=true):p.Ag.Io=true:=by cases p<;>first | rfl | simp[PV.Io] at h
theorem Xw{I:Imm}{bl:Bl}{v:Value}{p:PV}(h:Bu I bl w v p)(hs:p.Io=true):Rep I w v p:=by
 refine h.rep (by cases p<;>first | rfl | cases hs) ?_ ?_ ?_<;>(intros;intro e;subst e;simp[PV.Io] at hs)
theorem Ms{p:PV}(h:p.Io=true):p≠.self:=by intro e;subst e;simp[PV.Io] at h
theorem TZ{p:PV}(h:p.Io=true):p.ones=true:=by cases p<;>first | rfl | simp[PV.Io] at h
theorem Xv{I:Imm}{v:Value}{p:PV}(h:Rep I w v p)(hs:p.Io=true):v.cells=#[v]:=by
 cases h<;>first | rfl | simp[PV.Io] at hs
theorem fE{d:Nat}{l c v:PV}{rs:List (Option PV)}(h:AJ (.stfo d) [l,c,v]=some rs):∃off c',l=.lref d off∧v.Io=true∧upd c off v=some c'∧rs=[some c',some v.Ag]:=by
 cases l with
 |lref s off=>
  simp only[AJ] at h
  split at h
  ·rename_i e;subst e;cases v<;>first | (cases h;done) | (obtain⟨c',hc',e⟩:=Ac.1 h;exact⟨off,c',rfl,rfl,hc',e.symm⟩)
  ·cases h
 |_=>simp[AJ] at h
theorem fT(hi:Inv cx G a w A σ)(hkd:∀t,cx.kd t=fi.kind t)(hnt:cx.nt=fi.nt){o:Oper}{t:TypeId}{s d u:Nat}(ho:o.op=.store t (.tmp s) (.tmp u))(hod:o.dst=none){n:Nat}{ag:Bool}(hn:Ci P t=some (n,ag))(hn1:n=1)
  (hu:CJ fi u=true) (hrun:BV pur call { dst:=none,k:=.p (.stfo d),args:=[.slot s,.slot d,.slot u],ex:=[d,u] } A σ=some (A',σ')):Gives P cx o a w A' σ':=by
 subst hn1;obtain⟨vs,rs,he,hs,rfl,hA⟩:=Gr rfl hrun;obtain⟨l,qs,rfl,_,hq⟩:=Au he;obtain⟨c,qs,rfl,_,hq'⟩:=Au hq;obtain⟨p,qs,rfl,hp,hq''⟩:=Au hq';cases hq'';obtain⟨hgs,_⟩:=Dr he;obtain⟨hg,_⟩:=Dr hq;obtain⟨off,c',rfl,hsl,hup,rfl⟩:=fE hs;have huv:=En hkd hnt hu;obtain⟨hk,b,hb,hss⟩:=JX hi hgs;obtain⟨hrT,how⟩:=Lc hi huv.2 hp (I4 hsl);have hrep:=Xw hrT hsl;obtain⟨G',e1,e2,hext1,hbase1,how1⟩:=UX (t1:=.slot d (some off)) hi.base how;obtain⟨b',hb',hω,hI,cs,elem,hheap,hsz,hall⟩:=(Dz hk).1 (hi.slot d c hg);rw[hb] at hb';cases hb';obtain⟨hc',hle⟩:=Ma hup;have hud:u≠d:=fun e=>by rw[e,hk] at huv;simp[SK.val] at huv
 have hω':G'.ω b=some (.slot d none):=(hext1.fix b _ hω (by simp;exact fun e=>hud e.symm)).1
 have hI':∀x,¬G'.I b x:=by rw[e1];exact hI
 have hvc:=Xv hrep hsl;have hpc:=RB hsl;rw[hpc] at hle hc'
 let arr:Array Value:=(cs.toList.take off++(at' a u).cells.toList++cs.toList.drop (off+(at' a u).cells.toList.length)).toArray
 have hext2:=GJ (G:=G') (w:=w) (X:=fun tg=>tg=.slot d none) hω' hI' rfl arr
 have hext:Ext (fun tg=>tg=.slot u none∨tg=.slot d none) G G' w (w.setRow b arr):=(hext1.weaken (fun _ h=>.inl h)).trans (hext2.weaken (fun _ h=>.inr h))
 have hrun':(Instr.storeAt t (.pointer (some ⟨b,off,none⟩)) (at' a u)).run P w=.ok () (w.setRow b arr):=
  Fp hn hheap (by rw[hvc];rfl) (NF hrep (TZ hsl)) (by rw[hsz];simpa using hle)
 have hev:a.eval (.tmp s)=.pointer (some ⟨b,off,none⟩):=hss;have hevu:a.eval (.tmp u)=at' a u:=rfl;rw[hA rfl];refine .inr ⟨w.setRow b arr,?_,G',?_⟩
 ·simp[execOp,ho,hev,hevu,hrun']
 ·rw[hod];refine hi.VF (X:=fun tg=>tg=.slot u none∨tg=.slot d none) (T:=fun t=>t=u) (d:=d) (c':=c') none undef (by simp) hk hb ?_ hext (Gi hbase1 hω' hI' _) e2 ?_ (fun t h=>by rw[h];exact huv.2) ?_ ?_
  ·rw[hc'];refine JF hω' hI' (setRow_heap _ _ _ _ _ _ hheap) hsz hle (by rw[hvc];rfl) ?_ ?_
   ·intro j q hq _;exact((hall j q hq).ext hext1 (by simp)).ext hext2 (by simp)
   ·intro j q hq;cases j with
    |zero=>
     simp at hq;subst hq;exact⟨at' a u,by rw[hvc];rfl,.inl ⟨.one (.inl (hrep.mono hext.I hext.same)),how1.ext hext2 (by simp)⟩⟩
    |succ j=>simp at hq
  ·intro tg h;rcases h with h | h
   ·exact⟨u,none,h,.inr rfl⟩
   ·exact⟨d,none,h,.inl rfl⟩
  ·rw[DZ]
  ·intro r q hq;simp only[AOp.wr,Option.toList,Bh,BD,BK,CV] at hq;rw[C8] at hq
   split at hq
   ·rename_i h;cases hq;refine .inr (.inr ?_)
    rw[h.1,BL huv.2 (by rw[C9];exact I4 hsl)]
    exact⟨.one (.inl (hrep.mono hext.I hext.same).Ag),Cj p⟩
   ·rename_i h1;rw[C8] at hq
    split at hq
    ·rename_i h;cases hq;exact .inl ⟨h.1,rfl⟩
    ·rename_i h2;refine .inr (.inl ⟨fun e=>h2 ⟨e,LK hg⟩,fun e=>h1 ⟨e,by simp;have:=hi.room;omega⟩,by simp,hq⟩)
theorem kM{d:Nat}{l c:PV}{rs:List (Option PV)}(h:AJ (.ldfo d) [l,c]=some rs):∃off v c',l=.lref d off∧c.cells[off]?=some v∧v.Io=true∧upd c off v.Ag=some c'∧rs=[some v,some c']:=by
 cases l with
 |lref s off=>
  simp only[AJ] at h
  split at h
  ·rename_i e;subst e
   split at h
   ·rename_i v hv;cases v<;>first | (cases h;done) | (obtain⟨c',hc',e⟩:=Ac.1 h;exact⟨off,_,c',rfl,hv,rfl,hc',e.symm⟩)
   ·cases h
  ·cases h
 |_=>simp[AJ] at h
theorem YB{ps:List PV}{off j:Nat}{x p:PV}(h:(EJ ps off [x])[j]?=some p)(hl:off<ps.length):(j=off∧p=x)∨(j≠off∧ps[j]?=some p):=by
 unfold EJ at h;have e2:(ps.take off).length=off:=by rw[Bj];omega
 rw[BP] at h;by_cases h1:j<off
 ·rw[Ae (by omega),BQ,if_pos h1] at h
  exact .inr ⟨by omega,h⟩
 ·rw[Al (by omega),e2] at h
  by_cases h2:j=off
  ·subst h2;simp at h;exact .inl ⟨rfl,h.symm⟩
  ·rw[Al (by simp;omega),BN] at h
   refine .inr ⟨h2,?_⟩
   rw[show off+[x].length+(j - off - [x].length)=j from by simp;omega] at h
   exact h
theorem SE{G':Gh}{b off:Nat}{tag:Option Nat→Tag}{ps:List PV}{v:PV}(hns:v≠.self)(hc:Fx G w b tag ps)(hv:ps[off]?=some v)(hI:G'.I=G.I)(hext:Ext (fun tg=>tg=tag (some off)) G G' w w)(htag:∀i j,tag i=tag j→i=j):
  Fx G' w b tag (EJ ps off [v.Ag]):=by
 obtain⟨hω,hnI,cs,elem,hheap,hsz,hall⟩:=hc;have hlt:=(Ab.1 hv).1;refine⟨(hext.fix b _ hω (fun e=>by cases htag _ _ e)).1,by rw[hI];exact hnI,cs,elem,hheap,?_,fun j p hp=>?_⟩
 ·rw[hsz];unfold EJ;simp only[AV,Bj,CX,BI,De];omega
 ·rcases YB hp hlt with⟨rfl,rfl⟩ | ⟨hj,hp⟩
  ·exact .inl ⟨((hall _ _ hv).rep hns).1.Ag.mono hext.I hext.same hext.bl,Cj v⟩
  ·exact(hall _ _ hp).ext hext (fun e=>hj (by have:=htag _ _ e;simpa using this))
theorem gp(hi:Inv cx G a w A σ)(hkd:∀t,cx.kd t=fi.kind t)(hnt:cx.nt=fi.nt){o:Oper}{t:TypeId}{s d u:Nat}(ho:o.op=.load t (.tmp s))(hod:o.dst=some u){n:Nat}(hn:Ci P t=some (n,false))
  (hu:CJ fi u=true) (hrun:BV pur call { dst:=some u,k:=.p (.ldfo d),args:=[.slot s,.slot d],ex:=[d] } A σ=some (A',σ')):Gives P cx o a w A' σ':=by
 obtain⟨vs,rs,he,hs,rfl,hA⟩:=Gr rfl hrun;obtain⟨l,qs,rfl,_,hq⟩:=Au he;obtain⟨c,qs,rfl,_,hq'⟩:=Au hq;cases hq';obtain⟨hgs,_⟩:=Dr he;obtain⟨hg,_⟩:=Dr hq;obtain⟨off,v,c',rfl,hv,hsl,hup,rfl⟩:=kM hs;have huv:=En hkd hnt hu;obtain⟨hk,b,hb,hss⟩:=JX hi hgs;obtain⟨b',hb',hcell⟩:=(Dz hk).1 (hi.slot d c hg);rw[hb] at hb';cases hb'
 have hsub:sub c off n false=some v:=by
  simp only[sub,hv];rw[if_neg];intro e;cases v<;>simp[PV.isAgg,PV.isSelf,PV.Io] at e hsl
 obtain⟨x,hr1,hr2⟩:=GU (P:=P) hn hcell hsub;have hcell':=hcell;obtain⟨hω,hI,cs,elem,hheap,hsz,hall⟩:=hcell;have hlt:off<cs.size:=by have:=(Ab.1 hv).1;omega
 have hx:x=cs.getD off undef:=by
  have:(Instr.loadAt t (.pointer (some ⟨b,off,none⟩))).run P w=.ok (cs.getD off undef) w:=by
   have hcc:w.cell? ⟨b,off,none⟩=some (cs.getD off undef):=by simp[World.cell?,hheap,Array.getD,hlt]
   simp[Instr.loadAt,Instr.sureAddr,loadVar,GR hn,hcc]
  rw[this] at hr1;cases hr1;rfl
 subst hx;obtain⟨G',e1,e2,hext,hbase,how⟩:=UX (t1:=.slot u none) hi.base ((hall off v hv).rep (Ms hsl)).2;obtain⟨hc',hle⟩:=Ma hup;rw[RB (Xx hsl)] at hc';have hud:u≠d:=fun e=>by rw[e,hk] at huv;simp[SK.val] at huv
 have hev:a.eval (.tmp s)=.pointer (some ⟨b,off,none⟩):=hss;rw[hA rfl];refine .inl ⟨cs.getD off undef,w,by simp[execOp,ho,hev,hr1],G',?_⟩
 rw[hod];refine hi.VF (X:=fun tg=>tg=.slot d (some off)) (T:=fun _=>False) (d:=d) (c':=c') (some u) _ (fun u' e=>by cases e;exact huv.2) hk hb ?_ hext hbase e2 ?_ (fun _ h=>h.elim) ?_ ?_
 ·rw[hc'];exact SE (Ms hsl) hcell' hv e1 hext (fun i j e=>by cases e;rfl)
 ·intro tg h;exact⟨d,some off,h,.inl rfl⟩
 ·rw[DZ]
 ·intro r q hq;simp only[AOp.wr,Option.toList,Bh,BD,CF,BK,CV] at hq;rw[C8] at hq
  split at hq
  ·rename_i h;cases hq;exact .inl ⟨h.1,rfl⟩
  ·rename_i h1;rw[C8] at hq
   split at hq
   ·rename_i h;cases hq;refine .inr (.inr ?_)
    rw[h.1,BL huv.2 (I4 hsl),EL _ _ _ (by rw[hi.size];exact huv.1)]
    exact⟨hr2.mono hext.I hext.same hext.bl,how⟩
   ·rename_i h2;refine .inr (.inl ⟨fun e=>h1 ⟨e,by simp;exact LK hg⟩,id,fun e=>h2 ⟨(Option.some.inj e).symm,by have:=hi.room;omega⟩,hq⟩)
end
end Go.Abs

namespace Go.Abs
open Go.RowKit
def Gh.shut(G:Gh)(b:Nat)(J:Option Nat→Prop):Gh:=⟨fun b' x=>G.I b' x∨(b'=b∧J x),fun b'=>if b'=b then none else G.ω b',G.bl⟩
section
variable{P:Program}{pur:FuncId→Bool}{call:Caller}{fi:FI}{cx:Cx}{G:Gh}{a:Act}{w:World}{A A':Frm}{σ σ':Sto}
theorem MF(hb:Base cx G w){b:Nat}{t0:Tag}(hω:G.ω b=some t0)(J:Option Nat→Prop):Base cx (G.shut b J) w:=by
 obtain⟨hlt,hK⟩:=hb.own b t0 hω;refine⟨hb.keep,hb.same,fun b' x h=>.inl (hb.sub b' x h),fun b' x h=>?_,fun b' x h=>?_,fun b' tg h=>?_,hb.Klt,hb.grow,hb.bl,hb.os,hb.tape,hb.output⟩
 ·rcases h with h | ⟨rfl,_⟩
  ·exact hb.new b' x h
  ·exact .inr hK
 ·rcases h with h | ⟨rfl,_⟩
  ·exact hb.lt b' x h
  ·exact hlt
 ·simp only[Gh.shut] at h
  split at h
  ·cases h
  ·exact hb.own b' tg h
theorem Sd{X:Tag→Prop}{b:Nat}{t0:Tag}(hω:G.ω b=some t0)(hX:X t0)(J:Option Nat→Prop):Ext X G (G.shut b J) w w:=by
 refine⟨fun _ _ h=>.inl h,Same.refl _ _,Bl.le_refl _,fun _ _ _ _=>rfl,fun b' tg h' hn=>?_⟩
 have hne:b'≠b:=by
  intro e;subst e;rw[hω] at h';cases h';exact hn hX
 refine⟨by simp[Gh.shut,hne,h'],rfl,fun x hx=>?_⟩
 rcases hx with hx | ⟨rfl,_⟩
 ·exact hx
 ·exact absurd rfl hne
theorem LY{t n:Nat}(hk:(cx.kd t).val=true):DY cx G a w t (.hole n)↔∃b,at' a t=.pointer (some ⟨b,0,none⟩)∧Ti G w b (.slot t none) n:=by
 unfold DY;cases h:cx.kd t<;>rw[h] at hk<;>first | (simp[SK.val] at hk;done) | exact Iff.rfl
theorem tq(hi:Inv cx G a w A σ){o:Oper}{t:TypeId}(ho:o.op=.alloc t){d:Nat}(hod:o.dst=some d)
  (hd:d<cx.nt) (hk:(cx.kd d).val=true) {z:PV} (hz:EP P t=some z) {n:Nat} (hzn:z.cells.length=n)
  (hrun:BV pur call { dst:=some d,k:=.p (.zi n),args:=[] } A σ=some (A',σ')):Gives P cx o a w A' σ':=by
 obtain⟨vs,rs,he,hs,rfl,hA⟩:=Gr rfl hrun;cases he;simp only[AJ] at hs;cases hs;rw[hA rfl];unfold EP at hz
 split at hz
 ·rename_i it hit;obtain⟨zv,hzv,hzp⟩:=AO.1 hz;have hzr:Rep G.I w zv z:=EN hzp;refine .inl ⟨.pointer (some ⟨w.heap.size,0,none⟩),w.alloc (.cells zv.cells t),?_,G.Jr w.heap.size (fun _=>False) (some (.slot d none)),?_⟩
  ·have hzrun:(zeroValue t).run P w=.ok zv w:=by simp[zeroValue,typeInfo,hit,hzv]
   simp only[execOp,ho,Instr.alloc,Sem.run_bind,hzrun,Result.andThen_ok,newVar,newRow];rfl
  ·rw[hod];refine hi.step (fun tg=>tg=.slot d none) (some d) _ (EG _ hi.base _ _ _) (Ep hi.base _ _ _) (by rw[DZ]) ?_ (fun _ cs hc=>.inl ⟨hc,fun _ h=>by cases h⟩) hi.len hi.abl
   intro s q hq;simp only[AOp.wr,Option.toList,Bh,BD,CV] at hq;rw[C8] at hq
   split at hq
   ·rename_i h;cases hq;refine .inr ?_
    rw[h.1,LY hk];refine⟨w.heap.size,EL _ _ _ (by rw[hi.size];exact hd),if_pos rfl,?_,zv.cells,t,heap_alloc_new' _ _,?_⟩
    ·rintro x (h | ⟨_,h⟩)
     ·have:=hi.base.lt _ _ h;omega
     ·exact h
    ·rw[(FB hzr).1,hzn]
   ·rename_i h;have hsd:s≠d:=fun e=>h ⟨e,by have:=hi.room;omega⟩
    refine .inl ⟨hq,fun e=>hsd (Option.some.inj e).symm,fun j h=>?_,fun d' off e hbx hdd=>?_,fun m hm=>?_⟩
    ·cases h;exact hsd rfl
    ·have:=Option.some.inj hdd;subst this;rw[hbx] at hk;simp[SK.val] at hk
    ·obtain⟨keys,hkm⟩:=cx.ents s m hm;have:m≠d:=fun e=>by rw[e] at hkm;rw[hkm] at hk;simp[SK.val] at hk
     exact⟨fun e=>this (Option.some.inj e).symm,fun e=>by cases e;exact this rfl⟩
 ·cases hz
theorem nI(hi:Inv cx G a w A σ)(hkd:∀t,cx.kd t=fi.kind t){o:Oper}{t:TypeId}{s:Nat}{x:Operand}(ho:o.op=.store t (.tmp s) x)(hod:o.dst=none)(hk:(cx.kd s).val=true){n:Nat}{ag:Bool}(hn:Ci P t=some (n,ag))
  {az:List Ct} (hc:Aq fi [x]=some az) (hrun:BV pur call { dst:=none,k:=.p (.sti n),args:=.slot s::az,ex:=[s] } A σ=some (A',σ')):Gives P cx o a w A' σ':=by
 obtain⟨vs,rs,he,hs,rfl,hA⟩:=Gr rfl hrun;obtain⟨y,zs,rfl,hy,hz⟩:=AL hc;cases hz;obtain⟨c,qs,rfl,_,hq⟩:=Au he;obtain⟨p,qs,rfl,hp,hq⟩:=Au hq;cases hq;obtain⟨hg,_⟩:=Dr he;cases c with
 |hole m=>
  simp only[AJ] at hs
  split at hs
  ·rename_i hf;obtain⟨rfl,hf1,hf2,hf3⟩:=hf;cases hs;obtain⟨b,hb,hω,hI,cs,elem,hheap,hsz⟩:=(LY hk).1 (hi.slot s _ hg);have hrep:=((Ba hi hkd hy hp (IY hf2)).flat hf2).Ag;have hvs:=(FB hrep).1;rw[CP,hf1] at hvs
   have hcells:(cs.toList.take 0++(a.eval x).cells.toList++cs.toList.drop (0+(a.eval x).cells.toList.length)).toArray=(a.eval x).cells:=by
    rw[List.take_zero,Cv (by simp;omega)];simp
   have hrun':=Fp (off:=0) hn hheap hvs (NF hrep (by rw[GV];exact hf3)) (by omega)
   rw[hcells] at hrun';have hev:a.eval (.tmp s)=.pointer (some ⟨b,0,none⟩):=hb
   let J:Option Nat→Prop:=fun x=>∃o,x=some o
   have hext1:=GJ (G:=G) (w:=w) (X:=fun tg=>tg=.slot s none) hω hI rfl (a.eval x).cells
   have hext2:=Sd (G:=G) (w:=w.setRow b (a.eval x).cells) (X:=fun tg=>tg=.slot s none) hω rfl J
   have hext:=hext1.trans hext2;rw[hA rfl];refine .inr ⟨w.setRow b (a.eval x).cells,by simp[execOp,ho,hev,hrun'],G.shut b J,?_⟩
   rw[hod];refine hi.step _ none undef hext (MF (Gi hi.base hω hI _) hω J) (by rw[DZ]) ?_ (fun _ cs hc=>.inl ⟨hc,fun _ h=>by cases h⟩) hi.len hi.abl
   intro r q hq;simp only[AOp.wr,Option.toList,Bh,BD,BK,CV] at hq;rw[C8] at hq
   split at hq
   ·rename_i h;cases hq;refine .inr ?_
    rw[h.1,BL hk rfl];refine⟨?_,trivial⟩
    show Bu _ _ _ (at' a s) _;rw[hb];refine .one (.inl (.vptr (fun j=>(a.eval x).cells.getD j undef) (fun j q hq=>.inr ⟨rfl,⟨_,rfl⟩⟩) (fun j q hq=>?_) (fun j q hq=>((FB hrep).2 j q hq).mono hext.I hext.same)))
    have hlt:j<(a.eval x).cells.size:=by have:=(Ab.1 hq).1;rw[CP] at this;omega
    simp[World.cell?,setRow_heap _ _ _ _ _ _ hheap,Array.getD,hlt]
   ·rename_i h;have hrs:r≠s:=fun e=>h ⟨e,LK hg⟩
    refine .inl ⟨hq,by simp,fun j h=>by cases h;exact hrs rfl,fun _ _ _ _=>by simp,fun m' hm=>⟨by simp,fun e=>?_⟩⟩
    cases e;obtain⟨keys,hkm⟩:=cx.ents r s hm;rw[hkm] at hk;simp[SK.val] at hk
  ·cases hs
 |_=>simp[AJ] at hs
end
end Go.Abs

namespace Go.Abs
open Go.RowKit
section
variable{P:Program}{pur:FuncId→Bool}{call:Caller}{fi:FI}{cx:Cx}{G:Gh}{a:Act}{w:World}{A A':Frm}{σ σ':Sto}
structure Kc(b:Nat)(w w':World):Prop where
 other:∀k,k≠b→w'.heap[k]?=w.heap[k]?
 size:w'.heap.size=w.heap.size
 os:w'.os=w.os
 tape:w'.tape=w.tape
 output:w'.output=w.output
theorem MB{X:Tag→Prop}{b:Nat}{t0:Tag}{w':World}(h:Kc b w w')(hω:G.ω b=some t0)(hI:∀x,¬G.I b x)(hX:X t0):Ext X G G w w':=by
 have hne:∀b' x,G.I b' x→b'≠b:=fun b' x h e=>hI x (e▸h)
 refine⟨fun _ _ h=>h,⟨fun b' o h'=>cell_of_heap (h.other _ (hne _ _ h')),fun b' h'=>h.other _ (hne _ _ h')⟩,Bl.le_refl _,fun _ _ _ _=>rfl,fun b' tg h' hn=>⟨h',h.other _ ?_,fun _ h=>h⟩⟩
 intro e;subst e;rw[hω] at h';cases h';exact hn hX
theorem Np(hb:Base cx G w){b:Nat}{t0:Tag}{w':World}(h:Kc b w w')(hω:G.ω b=some t0)(hI:∀x,¬G.I b x):Base cx G w':=by
 have hne:∀b' x,G.I b' x→b'≠b:=fun b' x h e=>hI x (e▸h)
 have hK:∀b',cx.K b'→b'≠b:=fun b' h e=>(hb.own b t0 hω).2 (e▸h)
 refine⟨fun b' h'=>?_,?_,hb.sub,hb.new,fun b' x h'=>by rw[h.size];exact hb.lt b' x h',fun b' tg h'=>by rw[h.size];exact hb.own b' tg h',hb.Klt,by rw[h.size];exact hb.grow,hb.bl,by rw[h.os];exact hb.os,by rw[h.tape];exact hb.tape,by rw[h.output];exact hb.output⟩
 ·rw[h.other _ (hK b' h')];exact hb.keep b' h'
 ·exact hb.same.trans (I':=G.I) ⟨fun b' o h'=>cell_of_heap (h.other _ (hne _ _ h')),fun b' h'=>h.other _ (hne _ _ h')⟩ hb.sub
theorem Gj{t:Nat}{v:PV}{keys:List Ky}(hk:cx.kd t=.mapb keys):DY cx G a w t v↔(v=.mapb∧∃r,at' a t=.map (some r)∧Om G w r (.slot t none) keys):=by
 unfold DY;rw[hk]
theorem GK{t m:Nat}{key:Ky}{v:PV}(hk:cx.kd t=.ent m key):DY cx G a w t v↔∃k x ky r,v=.tuple [k,x]∧OL k=some ky∧at' a m=.map (some r)∧Ol G w r (.slot m none) ky x∧ky=key:=by
 unfold DY;rw[hk]
theorem Rc{t m:Nat}{key:Ky}(h:fi.kind t=.ent m key):t∈fi.JN m:=by
 unfold FI.JN;rw[DI];refine⟨?_,by rw[h];simp⟩
 rw[Bg];unfold FI.kind at h;by_cases hl:t<fi.kd.length
 ·exact hl
 ·rw[Aj,AC (by omega)] at h;cases h
theorem bU{t m:Nat}(h:t∈fi.JN m):∃key,fi.kind t=.ent m key:=by
 unfold FI.JN at h;rw[DI] at h;have h2:=h.2
 split at h2
 ·rename_i m' key hk;have:m'=m:=by simpa using h2
  subst this;exact⟨key,hk⟩
 ·cases h2
theorem nR(hi:Inv cx G a w A σ)(hkd:∀t,cx.kd t=fi.kind t){o:Oper}{t:TypeId}(ho:o.op=.makeMap t none){s:Nat}(hod:o.dst=some s)
  (hs:s<cx.nt) {keys:List Ky} (hk:cx.kd s=.mapb keys)
  (hrun:BV pur call { dst:=some s,k:=.p .mkm,args:=[],clr:=fi.JN s } A σ=some (A',σ')):Gives P cx o a w A' σ':=by
 obtain⟨vs,rs,he,hm,rfl,hA⟩:=tL hrun;cases he;simp only[AJ] at hm;cases hm;rw[hA _ rfl];have hext:=EG (G:=G) (fun tg=>tg=.slot s none) hi.base (.map #[] 0) (fun _=>False) (some (.slot s none))
 refine .inl ⟨.map (some w.heap.size),w.alloc (.map #[] 0),by simp[execOp,ho,Instr.makeMap],G.Jr w.heap.size (fun _=>False) (some (.slot s none)),?_⟩
 rw[hod];refine hi.step _ (some s) _ hext (Ep hi.base _ _ _) (by rw[DZ];simp) ?_ (fun _ cs hc=>.inl ⟨hc,fun _ h=>by cases h⟩) hi.len hi.abl
 intro r q hq;obtain⟨hns,hq⟩:=Lj _ _ _ _ hq;rw[C8] at hq
 split at hq
 ·rename_i h;cases hq;refine .inr ?_
  rw[h.1,Gj hk];refine⟨rfl,w.heap.size,EL _ _ _ (by rw[hi.size];exact hs),if_pos rfl,?_,#[],0,heap_alloc_new' _ _,fun i e h=>by simp at h,fun i j e f h=>by simp at h⟩
  rintro x (h | ⟨_,h⟩)
  ·have:=hi.base.lt _ _ h;omega
  ·exact h
 ·rename_i h;have hrs:r≠s:=fun e=>h ⟨e,by have:=hi.room;omega⟩
  refine .inl ⟨hq,fun e=>hrs (Option.some.inj e).symm,fun j h=>by cases h;exact hrs rfl,fun d' off e hbx hdd=>?_,fun m hm=>?_⟩
  ·cases hdd;rw[hbx] at hk;cases hk
  ·obtain⟨key,hke⟩:=hm
   have:m≠s:=fun e=>by
    subst e;rw[hkd] at hke;exact hns (Rc hke)
   exact⟨fun e=>this (Option.some.inj e).symm,fun e=>by cases e;exact this rfl⟩
theorem Wn(k:Ky):Instr.sameBits 10000 k.val k.val=true:=by
 cases k with
 |i k n=>simp[Ky.val,Instr.sameBits]
 |s l=>
  simp only[Ky.val,Instr.sameBits];exact(Go.MapKept.bytes_beq _ _).2 rfl
theorem UN{t kt et:TypeId}(ht:P.underlying t=some (.map kt et)){d:TypeDesc}(hkt:P.underlying kt=some d)(hdk:(∃k,d=.int k)∨d=.string){k:Ky}(hint:k.isInt=d.isInt)
  {r clock:Nat} {es:Array MapEntry} (hheap:w.heap[r]?=some (.map es clock)) (hsk:∀(i:Nat) (e:MapEntry),es[i]?=some e→∃k',e.key=k'.val∧sameKind k k'=true)
  (hone:∀(i j:Nat) (e f:MapEntry),es[i]?=some e→es[j]?=some f→e.key=f.key→i=j) (v:Value) :
  ∃(w':World) (es':Array MapEntry) (clock':Nat),(Instr.mapUpdate t (.map (some r)) k.val v).run P w=.ok () w'∧Kc r w w'∧w'.heap[r]?=some (.map es' clock')∧
   (∃(i:Nat) (e:MapEntry),es'[i]?=some e∧e.key=k.val∧e.val=v)∧(∀(i:Nat) (e:MapEntry),es[i]?=some e→e.key≠k.val→es'[i]?=some e)∧
   (∀(i:Nat) (e:MapEntry),es'[i]?=some e→e.key=k.val∨es[i]?=some e)∧
   (∀(i j:Nat) (e f:MapEntry),es'[i]?=some e→es'[j]?=some f→e.key=f.key→i=j):=by
 have hdd:(∃i,d=.int i)∧(∃i n,k=.i i n)∨d=.string∧∃l,k=.s l:=by
  rcases hdk with⟨i,rfl⟩ | rfl
  ·cases k with
   |i j n=>exact .inl ⟨⟨i,rfl⟩,j,n,rfl⟩
   |s l=>simp[TypeDesc.isInt,Ky.isInt] at hint
  ·cases k with
   |i j n=>simp[TypeDesc.isInt,Ky.isInt] at hint
   |s l=>exact .inr ⟨rfl,l,rfl⟩
 have hck:=run_checkKey (P:=P) (w:=w) (empty:=false) hkt hdk k.val;have hget:(getObj r).run P w=.ok (.map es clock) w:=by simp[getObj,Sem.run,hheap]
 have hrl:r<w.heap.size:=by
  rcases Cc r w.heap.size with h | h
  ·exact h
  ·rw[Dx h] at hheap;cases hheap
 have hset:∀o:Obj,Kc r w { w with heap:=w.heap.setIfInBounds r o }:=fun o=>
  ⟨fun k hk=>by show(w.heap.setIfInBounds r o)[k]?=_;rw[Da (fun e=>hk e.symm)],by simp,rfl,rfl,rfl⟩
 have hseth:∀o:Obj,({ w with heap:=w.heap.setIfInBounds r o }:World).heap[r]?=some o:=fun o=>by
  show(w.heap.setIfInBounds r o)[r]?=_;simp[hrl]
 rcases Kv hdd es.toList 0 (fun e he=>by
   obtain⟨i,hie⟩:=Bb.1 he;rw[Aw] at hie;exact hsk i e hie) with⟨j,e,hej,hke,hfn⟩ | ⟨hno,hfn⟩
 ·rw[Aw] at hej;have hjl:j<es.size:=(Bd.1 hej).1
  let es':=es.modify j fun e=>{ e with key:=k.val,val:=v }
  have hget':∀i,es'[i]?=if j=i then(es[i]?).map (fun e=>{ e with key:=k.val,val:=v }) else es[i]?:=fun i=>by
   show(es.modify j _)[i]?=_;rw[Ch]
  have hj':es'[j]?=some { e with key:=k.val,val:=v }:=by rw[hget',if_pos rfl,hej];rfl
  refine⟨{ w with heap:=w.heap.setIfInBounds r (.map es' clock) },es',clock,?_,hset _,hseth _,⟨j,_,hj',rfl,rfl⟩,fun i f hf hne=>?_,fun i f hf=>?_,fun i i' f f' hf hf' heq=>?_⟩
  ·have hst:(setObj r (.map es' clock)).run P w=.ok () { w with heap:=w.heap.setIfInBounds r (.map es' clock) }:=MapKept.run_setObj_map _ hheap
   have hkey:(Instr.keyThatStays (((es[j]?).map (·.key)).getD k.val) k.val).run P w=.ok k.val w:=by
    rw[hej];simp[Instr.keyThatStays,hke,Wn]
   simp only[Instr.mapUpdate,Sem.run_bind,run_underlying ht,Result.andThen_ok,hget,hck,MapKept.run_findKey hkt hfn,Bc,hkey];exact hst
  ·have hij:j≠i:=fun e'=>by subst e';rw[hej] at hf;cases hf;exact hne hke
   rw[hget',if_neg hij];exact hf
  ·rw[hget'] at hf
   split at hf
   ·obtain⟨e',_,rfl⟩:=Ac.1 hf;exact .inl rfl
   ·exact .inr hf
  ·have key:∀(i:Nat) (f:MapEntry),es'[i]?=some f→∃g,es[i]?=some g∧g.key=f.key:=fun i f hf=>by
    rw[hget'] at hf
    split at hf
    ·rename_i hji;subst hji;obtain⟨e',he',rfl⟩:=Ac.1 hf;rw[hej] at he';cases he';exact⟨e,hej,hke⟩
    ·exact⟨f,hf,rfl⟩
   obtain⟨g,hg,hgk⟩:=key i f hf;obtain⟨g',hg',hgk'⟩:=key i' f' hf';exact hone i i' g g' hg hg' (by rw[hgk,hgk',heq])
 ·let es':=es.push { key:=k.val,val:=v,born:=clock }
  have hget':∀i,es'[i]?=if i=es.size then some { key:=k.val,val:=v,born:=clock } else es[i]?:=fun i=>by
   show(es.push _)[i]?=_;rw[El]
  have hno':∀(i:Nat) (f:MapEntry),es[i]?=some f→f.key≠k.val:=fun i f hf=>by
   rw[←Aw] at hf;exact hno f (AA hf)
  have hlt':∀(i:Nat) (f:MapEntry),es[i]?=some f→i≠es.size:=fun i f hf e=>by
   have:=(Bd.1 hf).1;omega
  refine⟨{ w with heap:=w.heap.setIfInBounds r (.map es' (clock+1)) },es',clock+1,?_,hset _,hseth _,⟨es.size,_,by rw[hget',if_pos rfl],rfl,rfl⟩,fun i f hf hne=>?_,fun i f hf=>?_,fun i i' f f' hf hf' heq=>?_⟩
  ·have hst:(setObj r (.map es' (clock+1))).run P w=.ok () { w with heap:=w.heap.setIfInBounds r (.map es' (clock+1)) }:=MapKept.run_setObj_map _ hheap
   simp only[Instr.mapUpdate,Sem.run_bind,run_underlying ht,Result.andThen_ok,hget,hck,MapKept.run_findKey hkt hfn];exact hst
  ·rw[hget',if_neg (hlt' i f hf)];exact hf
  ·rw[hget'] at hf
   split at hf
   ·cases hf;exact .inl rfl
   ·exact .inr hf
  ·rw[hget'] at hf hf'
   split at hf
   ·split at hf'
    ·rename_i h1 h2;rw[h1,h2]
    ·cases hf;exact absurd heq.symm (hno' i' f' hf')
   ·split at hf'
    ·cases hf';exact absurd heq (hno' i f hf)
    ·exact hone i i' f f' hf hf' heq
theorem ZC(hi:Inv cx G a w A σ)(hkd:∀t,cx.kd t=fi.kind t){o:Oper}{t kt et:TypeId}{m s:Nat}{kx x:Operand}(ho:o.op=.insert t (.tmp m) kx x)(hod:o.dst=none)
  (ht:P.underlying t=some (.map kt et)) {d:TypeDesc} (hkt:P.underlying kt=some d) (hdk:(∃k,d=.int k)∨d=.string) {key:Ky} (hint:key.isInt=d.isInt) {keys:List Ky} (hkm:cx.kd m=.mapb keys) (hks:cx.kd s=.ent m key)
  {az:List Ct} (hc:Aq fi [kx,x]=some az) (hrun:BV pur call { dst:=none,k:=.p (.ins key keys),args:=.slot m::az,ex:=[s] } A σ=some (A',σ')):Gives P cx o a w A' σ':=by
 obtain⟨vs,rs,he,hs,rfl,hA⟩:=Gr rfl hrun;obtain⟨y1,zs,rfl,hy1,hz⟩:=AL hc;obtain⟨y2,zs,rfl,hy2,hz⟩:=AL hz;cases hz;obtain⟨c,qs,rfl,_,hq⟩:=Au he;obtain⟨k,qs,rfl,hp1,hq⟩:=Au hq;obtain⟨p,qs,rfl,hp2,hq⟩:=Au hq;cases hq;obtain⟨hg,_⟩:=Dr he;obtain⟨rfl,r,hr,hω,hI,es,clock,hheap,hes,hone⟩:=(Gj hkm).1 (hi.slot m c hg);simp only[AJ] at hs
 split at hs
 ·rename_i k' hk'
  split at hs
  ·rename_i hf;obtain⟨rfl,hf1,hf2,hf3⟩:=hf;cases hs;have hkv:=Ru hk' (Ba hi hkd hy1 hp1 (Ng hk'));have hrep:=((Ba hi hkd hy2 hp2 (IY hf3)).flat hf3).Ag
   obtain⟨w',es',clock',hrun',hob,hheap',⟨i0,e0,hi0,hk0,hv0⟩,hold,hnew,hone'⟩:=UN (P:=P) (w:=w) ht hkt hdk hint hheap (fun i e h=>by
    obtain⟨k2,hk2,e2⟩:=hes i e h;exact⟨k2,e2,Ao.1 hf2 k2 hk2⟩) hone (a.eval x)
   have hext:=MB (X:=fun tg=>tg=.slot m none) hob hω hI rfl
   have hev:a.eval (.tmp m)=.map (some r):=hr;rw[hA rfl];refine .inr ⟨w',by simp[execOp,ho,hev,hkv,hrun'],G,?_⟩
   rw[hod];refine hi.step _ none undef hext (Np hi.base hob hω hI) (by rw[DZ]) ?_ (fun _ cs hc=>.inl ⟨hc,fun _ h=>by cases h⟩) hi.len hi.abl
   intro u q hq;simp only[AOp.wr,Option.toList,Bh,BD,BK,CV] at hq;rw[C8] at hq
   split at hq
   ·rename_i h;cases hq;refine .inr ?_
    rw[h.1,GK hks];exact⟨k,p.Ag,k',r,rfl,hk',hr,⟨hω,es',clock',i0,e0,hheap',hi0,hk0,by rw[hv0];exact hrep.mono hext.I hext.same⟩,rfl⟩
   ·rename_i h;by_cases hum:u=m
    ·subst hum;refine .inr ?_
     rw[hg] at hq;cases hq;rw[Gj hkm];refine⟨rfl,r,hr,hω,hI,es',clock',hheap',fun i e he=>?_,hone'⟩
     rcases hnew i e he with h' | h'
     ·exact⟨k',by simpa using hf1,h'⟩
     ·exact hes i e h'
    ·by_cases hue:∃key2,cx.kd u=.ent m key2
     ·obtain⟨key2,hue⟩:=hue;refine .inr ?_
      obtain⟨k2,x2,ky2,r2,rfl,h1,h2,⟨h3,es2,clock2,i2,e2,h4,h5,h6,h7⟩,rfl⟩:=(GK hue).1 (hi.slot u q hq);rw[hr] at h2;cases h2;rw[hheap] at h4;cases h4;rw[GK hue]
      have hne:ky2≠k':=fun e=>by
       subst e
       exact h ⟨cx.uniq u s m ky2 hue hks,by
        have:=LK hq;rw[←cx.uniq u s m ky2 hue hks];exact this⟩
      refine⟨k2,x2,ky2,r,rfl,h1,hr,⟨hω,es',clock',i2,e2,hheap',hold i2 e2 h5 (by rw[h6];exact fun e=>hne (UC e)),h6,h7.mono hext.I hext.same⟩,rfl⟩
     ·refine .inl ⟨hq,by simp,fun j h=>by cases h;exact hum rfl,fun _ _ _ _=>by simp,fun m' hm=>⟨by simp,fun e=>?_⟩⟩
      cases e;exact hue hm
  ·cases hs
 ·cases hs
theorem NY:∀(ks:List Ky) (ps vs:List PV),entries ks ps=some vs→ps.length=ks.length∧vs.length=ks.length∧∀(j:Nat) (k:Ky),ks[j]?=some k→∃a v,ps[j]?=some (.tuple [a,v])∧OL a=some k∧vs[j]?=some v
 |[],[],vs,h=>by simp[entries] at h;subst h;exact⟨rfl,rfl,fun j k h=>by simp at h⟩
 |[],p::ps,vs,h=>by simp[entries] at h
 |k::ks,[],vs,h=>by simp[entries] at h
 |k::ks,p::ps,vs,h=>by
  cases p with
  |tuple xs=>
   rcases xs with _ | ⟨a,_ | ⟨v,_ | ⟨b,xs⟩⟩⟩
   ·simp[entries] at h
   ·simp[entries] at h
   ·simp only[entries] at h
    split at h
    ·rename_i k' vs' hk hv
     split at h
     ·rename_i e;subst e;cases h;obtain⟨h1,h2,h3⟩:=NY ks ps vs' hv;refine⟨by simp[h1],by simp[h2],fun j k hj=>?_⟩
      cases j with
      |zero=>simp at hj;subst hj;exact⟨a,v,rfl,hk,rfl⟩
      |succ j=>simpa using h3 j k (by simpa using hj)
     ·cases h
    ·cases h
   ·simp[entries] at h
  |_=>simp[entries] at h
theorem Uj:∀(ts:List Nat) (ps:List PV),BJ A (ts.map .slot)=some ps→∀(j:Nat) (p:PV),ps[j]?=some p→∃t,ts[j]?=some t∧A.get t=some p
 |[],ps,h,j,p,hp=>by cases h;simp at hp
 |t::ts,ps,h,j,p,hp=>by
  obtain⟨q,qs,rfl,h1,h2⟩:=Au h;cases j with
  |zero=>
   simp at hp;subst hp;exact⟨t,rfl,(Dr h1).1⟩
  |succ j=>simpa using Uj ts qs h2 j p (by simpa using hp)
theorem nO(hi:Inv cx G a w A σ)(hkd:∀t,cx.kd t=fi.kind t)(hnt:cx.nt=fi.nt){o:Oper}{s u:Nat}(ho:o.op=.move (.tmp s))(hod:o.dst=some u){keys:List Ky}(hk:cx.kd s=.mapb keys)(hu:CJ fi u=true)
  (hrun:BV pur call { dst:=some u,k:=.p (.mvb keys),args:=.slot s::(fi.JN s).map .slot,ex:=[s],clr:=fi.JN s } A σ=some (A',σ')):Gives P cx o a w A' σ':=by
 obtain⟨vs,rs,he,hs,rfl,hA⟩:=Gr rfl hrun;obtain⟨c,ps,rfl,_,hq⟩:=Au he;obtain⟨hg,_⟩:=Dr he;have huv:=En hkd hnt hu;obtain⟨rfl,r,hr,hω,hI,es,clock,hheap,hes,hone⟩:=(Gj hk).1 (hi.slot s c hg);simp only[AJ] at hs;obtain⟨ws,hws,e⟩:=Ac.1 hs;cases e;obtain⟨hl1,hl2,hent⟩:=NY keys ps ws hws;have hus:u≠s:=fun e=>by rw[e,hk] at huv;simp[SK.val] at huv
 have hex:∀j:Nat,∃i:Nat,∀k:Ky,keys[j]?=some k→∃(e:MapEntry) (v:PV),es[i]?=some e∧e.key=k.val∧ws[j]?=some v∧Rep G.I w e.val v:=by
  intro j;cases hj:keys[j]? with
  |none=>exact⟨0,fun k h=>by cases h⟩
  |some k=>
   obtain⟨a',v,h1,h2,h3⟩:=hent j k hj;obtain⟨t,ht,hgt⟩:=Uj _ _ hq j _ h1;obtain⟨key,hkey⟩:=bU (AA ht);obtain⟨k2,x2,ky2,r2,e1,h4,h5,⟨h6,es2,clock2,i2,e2,h7,h8,h9,h10⟩,_⟩:=(GK (by rw[hkd];exact hkey)).1 (hi.slot t _ hgt)
   cases e1;rw[hr] at h5;cases h5;rw[hheap] at h7;cases h7;rw[h2] at h4;cases h4;exact⟨i2,fun k' hk'=>by cases hk';exact⟨e2,v,h8,h9,h3,h10⟩⟩
 let ix:Nat→Nat:=fun j=>(hex j).choose
 have hix:∀(j:Nat) (k:Ky),keys[j]?=some k→∃(e:MapEntry) (v:PV),es[ix j]?=some e∧e.key=k.val∧ws[j]?=some v∧Rep G.I w e.val v:=fun j=>(hex j).choose_spec
 let J:Option Nat→Prop:=fun x=>x=none
 have hext:=Sd (G:=G) (w:=w) (X:=fun tg=>tg=.slot s none) hω rfl J
 have hev:a.eval (.tmp s)=.map (some r):=hr;rw[hA rfl];refine .inl ⟨.map (some r),w,by simp[execOp,ho,hev],G.shut r J,?_⟩
 rw[hod];refine hi.step _ (some u) _ hext (MF hi.base hω J) (by rw[DZ]) ?_ (fun _ cs hc=>.inl ⟨hc,fun _ h=>by cases h⟩) hi.len hi.abl
 intro t q hq;simp only[AOp.wr,Option.toList,CF,BK,CV] at hq;obtain⟨hnt',hq⟩:=Lj _ _ _ _ hq;rw[C8] at hq
 split at hq
 ·cases hq
 ·rename_i h1;have hts:t≠s:=fun e=>h1 ⟨e,by simp;exact LK hg⟩
  rw[C8] at hq
  split at hq
  ·rename_i h;cases hq;refine .inr ?_
   rw[h.1,BL huv.2 rfl,EL _ _ _ (by rw[hi.size];exact huv.1)]
   refine⟨.one (.inl (.mapv ix (.inr ⟨rfl,rfl⟩) hheap hl2 hes hone (fun j k hj=>?_) (fun j e p he hp=>?_))),trivial⟩
   ·obtain⟨e,v,h1,h2,_⟩:=hix j k hj;rw[h1];simp[h2]
   ·have hj:j<keys.length:=by have:=(Ab.1 hp).1;omega
    obtain⟨e',v,h1,h2,h3,h4⟩:=hix j _ (Ad hj);rw[he] at h1;cases h1;rw[hp] at h3;cases h3;exact h4.mono hext.I hext.same
  ·rename_i h2;have htu:t≠u:=fun e=>h2 ⟨e,by have:=hi.room;omega⟩
   refine .inl ⟨hq,fun e=>htu (Option.some.inj e).symm,fun j h=>by cases h;exact hts rfl,fun d' off e hbx hdd=>?_,fun m hm=>?_⟩
   ·cases hdd;rw[hbx] at huv;simp[SK.val] at huv
   ·obtain⟨key,hke⟩:=hm
    have hms:m≠s:=fun e=>by
     subst e;rw[hkd] at hke;exact hnt' (Rc hke)
    refine⟨fun e=>?_,fun e=>by cases e;exact hms rfl⟩
    cases e;obtain⟨keys',hk'⟩:=cx.ents t u ⟨key,hke⟩;rw[hk'] at huv;simp[SK.val] at huv
end
end Go.Abs

namespace Go.Abs
open Go.RowKit
section
variable{P:Program}{pur:FuncId→Bool}{call:Caller}{fi:FI}{cx:Cx}{G:Gh}{a:Act}{w:World}{A A':Frm}{σ σ':Sto}
theorem Hl{ao:AOp}(h:BV pur call ao A σ=some (A',σ')):
  ∃vs rs,BJ A ao.args=some vs∧sem pur call ao.k vs σ=some (rs,σ')∧(rs.length=ao.dst.toList.length+ao.ex.length→A'=CV A ao.wr (rs++ao.clr.map fun _=>none))∧
   (rs.length≠ao.dst.toList.length+ao.ex.length→A'=A∧ao.dst=none):=by
 unfold BV at h
 split at h
 ·rename_i vs hvs
  split at h
  ·rename_i rs σ₁ hs;refine⟨vs,rs,hvs,?_,fun hl=>?_,fun hl=>?_⟩
   ·split at h
    ·cases h;exact hs
    ·split at h<;>cases h;exact hs
   ·rw[if_pos hl] at h;cases h;rfl
   ·rw[if_neg hl] at h
    split at h
    ·rename_i hc;cases h;exact⟨rfl,by simpa using hc.1⟩
    ·cases h
  ·cases h
 ·cases h
theorem V7(hi:Inv cx G a w A σ){s:Nat}{p:PV}(hnb:cx.kd s≠.box)(hg:A.get s=some p)(hr:p.EF=true):Bu G.I G.bl w (at' a s) p:=by
 have h:=hi.slot s _ hg;have hf:p.free=true:=by cases p<;>first | rfl | cases hr
 cases hk:cx.kd s with
 |box=>exact absurd hk hnb
 |mapb keys=>have:=((Gj hk).1 h).1;subst this;cases hr
 |ent m key=>obtain⟨_,_,_,_,h,_⟩:=(GK hk).1 h;subst h;cases hr
 |plain | imm | obj=>exact((BL (by rw[hk];rfl) hf).1 h).1
theorem Wt(hi:Inv cx G a w A σ){s id off:Nat}(hnb:cx.kd s≠.box)(hg:A.get s=some (.ref id off)):∃b,G.bl.l[id]?=some b∧at' a s=.pointer (some ⟨b,off,none⟩):=
 (V7 hi hnb hg rfl).Ho
theorem JV(hi:Inv cx G a w A σ){id b:Nat}(hb:G.bl.l[id]?=some b){cs:List PV}(hσ:σ[id]?=some cs)(hns:∀p,p.isSelf=true→cs≠[p]):Fx G w b (.obj id) cs:=by
 obtain⟨b',h1,h2⟩:=hi.obj id cs hσ;rw[hb] at h1;cases h1;rcases h2 with h2 | ⟨t,e,l,rfl,_⟩ | rfl | ⟨gen,size,es,rfl,_⟩ | ⟨d,z,ks,vs,rfl,_⟩ | ⟨mid,since,seen,rfl,_⟩
 rotate_right
 ·exact absurd rfl (hns (.itr mid since seen) rfl)
 rotate_right
 ·exact absurd rfl (hns (.mapo d z ks vs) rfl)
 ·exact h2
 ·exact absurd rfl (hns (.bld t e l) rfl)
 ·exact absurd rfl (hns .dead rfl)
 ·exact absurd rfl (hns (.arrv gen size es) rfl)
theorem Jm{cs es:List PV}{gen size:Nat}(h:Dq cs gen size=some es):cs=[.arrv gen size es]:=by
 unfold Dq at h
 split at h
 ·split at h
  ·rename_i hc;cases h;obtain⟨rfl,rfl⟩:=hc;rfl
  ·cases h
 ·cases h
theorem Ob(hi:Inv cx G a w A σ){id gen size:Nat}{es:List PV}(hσ:σ[id]?=some [.arrv gen size es]):L9 G w id gen size es:=by
 obtain⟨b,h1,h2⟩:=hi.obj id _ hσ;rcases h2 with h2 | ⟨t,e,l,h,_⟩ | h | ⟨gen',size',es',h,h2⟩ | ⟨_,_,_,_,h,_⟩ | ⟨_,_,_,h,_⟩
 rotate_right
 ·cases h
 rotate_right
 ·cases h
 ·obtain⟨_,_,cs,_,_,_,h⟩:=h2;rcases h 0 _ rfl with⟨h,_⟩ | ⟨h,_⟩
  ·exact absurd h.free (by simp[PV.free])
  ·cases h
 ·cases h
 ·cases h
 ·cases h;exact h2
theorem Q8{cs:List PV}(h:cs.any PV.isSelf=false):∀p,p.isSelf=true→cs≠[p]:=by
 rintro p hp rfl
 simp[hp] at h
theorem YG{cs:List PV}{off n:Nat}{ag:Bool}{v:PV}(h:sub (.agg cs) off n ag=some v)(hn0:n≠0):∀p,p.isSelf=true→cs≠[p]:=by
 rintro p hp rfl
 cases ag with
 |true=>
  simp only[sub] at h
  split at h
  ·rename_i hc;have h0:off=0:=by have:=hc.1;simp at this;omega
   have h1:n=1:=by have:=hc.1;simp at this;omega
   subst h0 h1;have:=hc.2;have:p.flat=true:=by simpa using this
   cases p<;>simp[PV.isSelf,PV.flat] at hp this
  ·cases h
 |false=>
  simp only[sub,PV.cells] at h;cases off with
  |zero=>simp[hp] at h
  |succ off=>simp at h
theorem bV{cs:List PV}{off:Nat}{v:PV}(h:cs[off]?=some v)(hs:v.Io=true):∀p,p.isSelf=true→cs≠[p]:=by
 rintro p hp rfl
 cases off with
 |zero=>simp at h;subst h;cases p<;>simp[PV.Io,PV.isSelf] at hs hp
 |succ off=>simp at h
theorem Uw{ps:List PV}{v:PV}(h:Iu ps=some v):∀p∈ps,(p.flat||p.EF)=true:=by
 intro p hp;unfold Iu at h
 split at h
 ·rename_i hf;rw[Ao.1 hf p hp];rfl
 ·split at h
  ·rename_i hf;have:=Ao.1 hf p hp;rw[Ak] at this;exact this.1
  ·cases h
theorem Yk{p:PV}(h:p.isSelf=true):(p.flat||p.EF)=false:=by cases p<;>first | rfl | cases h
theorem QH{I:Imm}{bl:Bl}{b off n base:Nat}{t:TypeId}(hn:Ci P t=some (n,true)){cs:Array Value}{elem:TypeId}(hheap:w.heap[b]?=some (.cells cs elem (0,0))){ps:List PV}{v:PV}(hsz:base+ps.length≤cs.size)
  (hall:∀(j:Nat) (p:PV),ps[j]?=some p→p≠.self→Bu I bl w (cs.getD (base+j) undef) p) (hl:off+n≤ps.length) (ha:Iu ((ps.drop off).take n)=some v) :
  ∃u,(Instr.loadAt t (.pointer (some ⟨b,base+off,none⟩))).run P w=.ok u w∧Bu I bl w u v:=by
 have hlt:∀j,j<n→base+off+j<cs.size:=fun j hj=>by omega
 have h:=run_loadCells (P:=P) (w:=w) ⟨b,base+off,none⟩ n (fun j=>cs.getD (base+off+j) undef) (fun j hj=>by
  rw[Fh];simp[World.cell?,hheap,Array.getD,hlt j hj])
 refine⟨.agg ((List.range n).map fun j=>cs.getD (base+off+j) undef).toArray,by simp[Instr.loadAt,Instr.sureAddr,loadVar,GR hn,run_sizeOf hn,h],(Uv (ps:=(ps.drop off).take n) ⟨by simp;omega,fun i p hp=>?_⟩ ha).1⟩
 have hm:=Uw ha p (AA hp);rw[BQ] at hp
 split at hp
 case isFalse=>cases hp
 rename_i hin;rw[BN] at hp;refine⟨cs.getD (base+off+i) undef,by rw[Cz.symm];simp[hin],?_⟩
 rw[CU];exact(hall _ p hp (by rintro rfl;cases hm)).iJ hm
theorem gq(hi:Inv cx G a w A σ)(hkd:∀t,cx.kd t=fi.kind t)(hnt:cx.nt=fi.nt){o:Oper}{t:TypeId}{x:Operand}(ho:o.op=.load t x){n:Nat}{ag:Bool}(hn:Ci P t=some (n,ag))(hn0:n≠0)
  {az:List Ct} (hc:Aq fi [x]=some az) (hd:BA fi o.dst=true) (hrun:BV pur call { dst:=o.dst,k:=.r (.ld n ag),args:=az } A σ=some (A',σ')):Gives P cx o a w A' σ':=by
 obtain⟨vs,rs,he,hs,hA1,hA2⟩:=Hl hrun;simp only[sem] at hs;obtain⟨rs',hs2,e⟩:=Ac.1 hs;cases e;clear hs;obtain⟨y,zs,rfl,hy,hz⟩:=AL hc;cases hz;obtain⟨p,qs,rfl,hp,hq⟩:=Au he;cases hq;cases p with
 |vptr v=>
  refine UI hi hkd hnt ho hn hc hd (pur:=pur) (call:=call) ?_
  unfold BV at hrun ⊢;dsimp only at hrun he ⊢;rw[he] at hrun ⊢;dsimp only[sem,AJ,BR] at hrun ⊢;exact hrun
 |ref id off=>
  obtain⟨b,hb,hv⟩:=(Ba hi hkd hy hp rfl).Ho;simp only[BR] at hs2
  split at hs2
  ·rename_i cs hσ;obtain⟨v,hv',e⟩:=Ac.1 hs2;cases e
   obtain⟨u,h1,h2⟩:∃u,(Instr.loadAt t (.pointer (some ⟨b,off,none⟩))).run P w=.ok u w∧Bu G.I G.bl w u v:=by
    cases ag with
    |false=>exact GU (P:=P) (c:=.agg cs) hn (JV hi hb hσ (YG (n:=n) (ag:=false) hv' hn0)) hv'
    |true=>
     simp only[K9] at hv'
     split at hv'
     case isFalse=>cases hv'
     rename_i hle
     obtain⟨_,_,vs,elem,hheap,hsz,hall⟩:=JV hi hb hσ (by
      rintro p hps rfl
      have h0:off=0:=by simp at hle;omega
      have h1:n=1:=by simp at hle;omega
      subst h0 h1;have:=Uw hv' p (by simp)
      rw[Yk hps] at this;cases this)
     have:=QH (I:=G.I) (bl:=G.bl) (base:=0) hn hheap (by omega) (fun j p hp hs=>by rw[Bc];exact((hall j p hp).rep hs).1) hle hv'
     rwa [Bc] at this
   have hA:A'=GA A o.dst v.Ag:=by
    cases hdd:o.dst with
    |none=>
     rw[hdd] at hA2;exact(hA2 (by simp)).1
    |some d=>
     rw[hdd] at hA1;rw[hA1 rfl];rfl
   rw[hA];exact .inl ⟨u,w,by simp[execOp,ho,hv,h1],G,hi.JK (Ext.refl _ _ _) hi.base rfl o.dst (DC hkd hnt hd) (by rw[C9];exact h2.free) h2.Ag (fun _ _=>Cj _)⟩
  ·cases hs2
 |aptr id gen size i off=>
  obtain⟨b,base,m,hb,hv⟩:=(Ba hi hkd hy hp rfl).Ir;simp only[BR] at hs2
  split at hs2
  ·rename_i cs hσ
   split at hs2
   ·rename_i es hes
    split at hs2
    ·rename_i e he';obtain⟨v,hv',e'⟩:=Ac.1 hs2;cases e';have:=Jm hes;subst this;obtain⟨b',base',m',cs,elem,h1,_,_,_,h5,h6,h7,h8,h9⟩:=Ob hi hσ;rw[hb] at h1;cases h1;obtain⟨hl,hall⟩:=h9 i e he';have hlt:=(Ab.1 he').1;have hmul:(i+1) * size≤es.length * size:=Bv _ hlt;rw[CK] at hmul
     obtain⟨u,h1,h2⟩:∃u,(Instr.loadAt t (.pointer (some ⟨b,base+i * size+off,none⟩))).run P w=.ok u w∧Bu G.I G.bl w u v:=by
      cases ag with
      |false=>exact Pd (P:=P) (I:=G.I) (bl:=G.bl) (base:=base+i * size) hn h5 (by omega) (fun j p hp _=>hall j p hp) hv'
      |true=>
       cases e with
       |agg qs=>
        simp only[Yg] at hv'
        split at hv'
        ·rename_i hle;exact QH (base:=base+i * size) hn h5 (ps:=qs) (by simp only[PV.cells] at hl;omega) (fun j p hp _=>hall j p hp) hle hv'
        ·cases hv'
       |aggr qs=>
        simp only[Yg] at hv'
        split at hv'
        ·rename_i hle;exact QH (base:=base+i * size) hn h5 (ps:=qs) (by simp only[PV.cells] at hl;omega) (fun j p hp _=>hall j p hp) hle hv'
        ·cases hv'
       |_=>cases hv'
     have hA:A'=GA A o.dst v.Ag:=by
      cases hdd:o.dst with
      |none=>
       rw[hdd] at hA2;exact(hA2 (by simp)).1
      |some d=>
       rw[hdd] at hA1;rw[hA1 rfl];rfl
     rw[hA];exact .inl ⟨u,w,by simp[execOp,ho,hv,h1],G,hi.JK (Ext.refl _ _ _) hi.base rfl o.dst (DC hkd hnt hd) (by rw[C9];exact h2.free) h2.Ag (fun _ _=>Cj _)⟩
    ·cases hs2
   ·cases hs2
  ·cases hs2
 |_=>simp[BR] at hs2
theorem Inv.newObj(hi:Inv cx G a w A σ){d:Nat}(hd:d<cx.nt)(hk:(cx.kd d).val=true){cs:Array Value}{t:TypeId}{ps:List PV}(hrep:IQ G.I G.bl w cs.toList ps)
  (hown:∀(j:Nat) (q:PV),ps[j]?=some q→∀(G:Gh) (w:World) (tag:Tag) (c:Value),Eb G w tag c q) :
  Sim cx (a.put (some d) (.pointer (some ⟨w.heap.size,0,none⟩))) (w.alloc (.cells cs t)) (A.set d (some (.ref σ.length 0))) (σ++[ps]):=by
 let G1:=G.Jr w.heap.size (fun _=>False) (some (.obj σ.length none))
 let G':Gh:={ G1 with bl:=⟨G.bl.l++[w.heap.size],G.bl.ab⟩ }
 have hext1:=EG (fun _=>False) hi.base (.cells cs t) (fun _=>False) (some (.obj σ.length none))
 have hext:Ext (fun _=>False) G G' w (w.alloc (.cells cs t)):=⟨hext1.I,hext1.same,⟨Cr _ _,fun _ _ _ h=>h⟩,fun _ _ _ _=>rfl,hext1.fix⟩
 have hb1:=Ep hi.base (.cells cs t) (fun _=>False) (some (.obj σ.length none))
 have hbase:Base cx G' (w.alloc (.cells cs t)):=⟨hb1.keep,hb1.same,hb1.sub,hb1.new,hb1.lt,hb1.own,hb1.Klt,hb1.grow,hi.base.bl.trans ⟨Cr _ _,fun _ _ _ h=>h⟩,hb1.os,hb1.tape,hb1.output⟩
 have hbl:G'.bl.l[σ.length]?=some w.heap.size:=by
  show(G.bl.l++[w.heap.size])[σ.length]?=_;rw[←hi.len];simp
 refine⟨G',hi.step _ (some d) _ hext hbase (by simp) ?_ ?_ ?_ (fun id g x h=>by have:=hi.abl id g x h;simp;omega)⟩
 ·intro s q hq;rw[C8] at hq
  split at hq
  ·rename_i hc;cases hq;refine .inr ?_
   rw[hc.1,BL hk rfl,EL _ _ _ (by rw[hi.size];exact hd)]
   exact⟨.one (.inr (.ref hbl)),trivial⟩
  ·rename_i hc;have hsd:s≠d:=fun e=>hc ⟨e,by have:=hi.room;omega⟩
   refine .inl ⟨hq,fun e=>hsd (Option.some.inj e).symm,fun j h=>h,fun d' off e hbx hdd=>?_,fun m hm=>⟨fun e=>?_,fun h=>h⟩⟩
   ·cases hdd;rw[hbx] at hk;simp[SK.val] at hk
   ·cases e;obtain⟨keys,hkm⟩:=cx.ents s d hm;rw[hkm] at hk;simp[SK.val] at hk
 ·intro id cs' hc;by_cases hid:id<σ.length
  ·rw[Ae hid] at hc;exact .inl ⟨hc,fun _ h=>h⟩
  ·have:id=σ.length:=by
    have:=(Ab.1 hc).1;simp at this;omega
   subst this;simp at hc;subst hc;refine .inr ⟨w.heap.size,hbl,.inl ⟨if_pos rfl,?_,cs,t,heap_alloc_new' _ _,by simpa using hrep.1,fun j r hr=>.inl ⟨?_,hown j r hr ..⟩⟩⟩
   ·rintro x (h | ⟨_,h⟩)
    ·have:=hi.base.lt _ _ h;omega
    ·exact h
   ·obtain⟨c,hc1,hc2⟩:=hrep.2 j r hr;rw[Aw] at hc1;rw[Ah,hc1];exact hc2.mono hext.I hext.same hext.bl
 ·show(G.bl.l++[w.heap.size]).length=_;simp[hi.len]
theorem oK(hi:Inv cx G a w A σ)(hkd:∀t,cx.kd t=fi.kind t){o:Oper}{t:TypeId}{x:Operand}(ho:o.op=.box t x){d:Nat}(hod:o.dst=some d)
  (hd:d<cx.nt) (hk:(cx.kd d).val=true)
  {az:List Ct} (hc:Aq fi [x]=some az) (hrun:BV pur call { dst:=some d,k:=.w .bxO,args:=az } A σ=some (A',σ')):Gives P cx o a w A' σ':=by
 obtain⟨vs,rs,he,hs,hA,_⟩:=Hl hrun;obtain⟨y,zs,rfl,hy,hz⟩:=AL hc;cases hz;obtain⟨p,qs,rfl,hp,hq⟩:=Au he;cases hq;simp only[sem,Cq] at hs
 split at hs
 ·rename_i hf;cases hs;rw[hA rfl];have hrep:=(Ba hi hkd hy hp (Ij hf)).Ag;refine .inl ⟨.pointer (some ⟨w.heap.size,0,none⟩),w.alloc (.cells (a.eval x).cells t),?_,?_⟩
  ·simp only[execOp,ho,Instr.box,newVar,newRow];rfl
  ·rw[hod];exact hi.newObj hd hk (IQ.M4 hrep (by rw[F7];exact hf)) (fun j q hq=>EO hq)
 ·cases hs
theorem ZG(hi:Inv cx G a w A σ){o:Oper}{t:TypeId}(ho:o.op=.alloc t){d:Nat}(hod:o.dst=some d)
  (hd:d<cx.nt) (hk:(cx.kd d).val=true) {z:PV} (hz:EP P t=some z)
  (hrun:BV pur call { dst:=some d,k:=.w (.alO z.cells),args:=[] } A σ=some (A',σ')):Gives P cx o a w A' σ':=by
 obtain⟨vs,rs,he,hs,hA,_⟩:=Hl hrun;cases he;simp only[sem,Cq] at hs;cases hs;rw[hA rfl];unfold EP at hz
 split at hz
 ·rename_i it hit;obtain⟨zv,hzv,hzp⟩:=AO.1 hz;have hzr:Rep G.I w zv z:=EN hzp;refine .inl ⟨.pointer (some ⟨w.heap.size,0,none⟩),w.alloc (.cells zv.cells t),?_,?_⟩
  ·have hzrun:(zeroValue t).run P w=.ok zv w:=by simp[zeroValue,typeInfo,hit,hzv]
   simp only[execOp,ho,Instr.alloc,Sem.run_bind,hzrun,Result.andThen_ok,newVar,newRow];rfl
  ·rw[hod];exact hi.newObj hd hk (.ut (O8.OG hzr)) (TL hzp)
 ·cases hz
theorem oO(hi:Inv cx G a w A σ){o:Oper}{t e:TypeId}(ho:o.op=.alloc t){d:Nat}(hod:o.dst=some d)
  (hd:d<cx.nt) (hk:(cx.kd d).val=true) (hz:EP P t=some (.agg [.nilp,.nils]))
  (hrun:BV pur call { dst:=some d,k:=.w (.alB t e),args:=[] } A σ=some (A',σ')):Gives P cx o a w A' σ':=by
 obtain⟨vs,rs,he,hs,hA,_⟩:=Hl hrun;cases he;simp only[sem,Cq] at hs;cases hs;rw[hA rfl];unfold EP at hz
 split at hz
 ·rename_i it hit;obtain⟨zv,hzv,hzp⟩:=AO.1 hz;have hzr:Rep G.I w zv (.agg [.nilp,.nils]):=EN hzp
  have hzc:zv.cells=#[.pointer none,.slice none 0 0]:=by
   cases hzr with
   |agg hl hr=>
    rename_i cs;have h0:=hr 0 _ rfl;have h1:=hr 1 _ rfl
    match cs,hl,h0,h1 with
    |⟨[x,y]⟩,_,h0,h1=>
     simp[Array.getD] at h0 h1;cases h0;cases h1;rfl
  let G1:=G.Jr w.heap.size (fun _=>False) (some (.obj σ.length none))
  let G':Gh:={ G1 with bl:=⟨G.bl.l++[w.heap.size],G.bl.ab⟩ }
  have hext1:=EG (fun _=>False) hi.base (.cells zv.cells t) (fun _=>False) (some (.obj σ.length none))
  have hext:Ext (fun _=>False) G G' w (w.alloc (.cells zv.cells t)):=⟨hext1.I,hext1.same,⟨Cr _ _,fun _ _ _ h=>h⟩,fun _ _ _ _=>rfl,hext1.fix⟩
  have hb1:=Ep hi.base (.cells zv.cells t) (fun _=>False) (some (.obj σ.length none))
  have hbase:Base cx G' (w.alloc (.cells zv.cells t)):=⟨hb1.keep,hb1.same,hb1.sub,hb1.new,hb1.lt,hb1.own,hb1.Klt,hb1.grow,hi.base.bl.trans ⟨Cr _ _,fun _ _ _ h=>h⟩,hb1.os,hb1.tape,hb1.output⟩
  have hbl:G'.bl.l[σ.length]?=some w.heap.size:=by
   show(G.bl.l++[w.heap.size])[σ.length]?=_;rw[←hi.len];simp
  refine .inl ⟨.pointer (some ⟨w.heap.size,0,none⟩),w.alloc (.cells zv.cells t),?_,G',?_⟩
  ·have hzrun:(zeroValue t).run P w=.ok zv w:=by simp[zeroValue,typeInfo,hit,hzv]
   simp only[execOp,ho,Instr.alloc,Sem.run_bind,hzrun,Result.andThen_ok,newVar,newRow];rfl
  ·rw[hod];refine hi.step _ (some d) _ hext hbase (by simp[AOp.wr,CV]) ?_ ?_ ?_ (fun id g x h=>by have:=hi.abl id g x h;simp;omega)
   ·intro s q hq;simp only[AOp.wr,Option.toList,Bh,BD,CV] at hq;rw[C8] at hq
    split at hq
    ·rename_i hc;cases hq;refine .inr ?_
     rw[hc.1,BL hk rfl,EL _ _ _ (by rw[hi.size];exact hd)]
     exact⟨.one (.inr (.ref hbl)),trivial⟩
    ·rename_i hc;have hsd:s≠d:=fun e=>hc ⟨e,by have:=hi.room;omega⟩
     refine .inl ⟨hq,fun e=>hsd (Option.some.inj e).symm,fun j h=>h,fun d' off e hbx hdd=>?_,fun m hm=>⟨fun e=>?_,fun h=>h⟩⟩
     ·cases hdd;rw[hbx] at hk;simp[SK.val] at hk
     ·cases e;obtain⟨keys,hkm⟩:=cx.ents s d hm;rw[hkm] at hk;simp[SK.val] at hk
   ·intro id cs' hc;by_cases hid:id<σ.length
    ·rw[Ae hid] at hc;exact .inl ⟨hc,fun _ h=>h⟩
    ·have:id=σ.length:=by
      have:=(Ab.1 hc).1;simp at this;omega
     subst this;simp at hc;subst hc;refine .inr ⟨w.heap.size,hbl,.inr (.inl ⟨t,e,[],rfl,if_pos rfl,?_,.pointer none,.slice none 0 0,.inl rfl,?_,⟨rfl,.inl ⟨rfl,rfl⟩⟩,fun g hg=>by cases hg⟩)⟩
     ·rintro x (h | ⟨_,h⟩)
      ·have:=hi.base.lt _ _ h;omega
      ·exact h
     ·rw[heap_alloc_new',hzc]
   ·show(G.bl.l++[w.heap.size]).length=_;simp[hi.len]
 ·cases hz
theorem Inv.NJ{G':Gh}{w':World}{X:Tag→Prop}{T:Nat→Prop}{id:Nat}{cs':List PV}(hi:Inv cx G a w A σ)(dst:Option Nat)(v:Value)(hdst:∀u,dst=some u→(cx.kd u).val=true)
  (hid:id<σ.length) (hobj:Gx G' w' id cs') (he:Ext X G G' w w') (hbase:Base cx G' w') (hbl:G'.bl.l=G.bl.l) (hab:∀k g x,G'.bl.ab k g=some x→k<σ.length)
  (hX:∀tg,X tg→(∃j,tg=.obj id j)∨∃t,tg=.slot t none∧T t) (hT:∀t,T t→(cx.kd t).val=true) (hl:A'.length=A.length)
  (hA:∀t p,A'.get t=some p→(¬T t∧dst≠some t∧A.get t=some p)∨DY cx G' (a.put dst v) w' t p):Inv cx G' (a.put dst v) w' A' (σ.set id cs'):=by
 have hval:∀m,(cx.kd m).val=false→dst≠some m∧¬T m:=fun m hm=>by
  refine⟨fun e=>?_,fun e=>?_⟩
  ·rw[hdst m e] at hm;cases hm
  ·rw[hT m e] at hm;cases hm
 refine hi.step X dst v he hbase hl ?_ ?_ (by rw[hbl,Bo];exact hi.len) (fun k g x h=>by rw[Bo];exact hab k g x h)
 ·intro t p hp;rcases hA t p hp with⟨h2,h3,h4⟩ | h
  ·refine .inl ⟨h4,h3,fun j hx=>?_,fun d' off e hbx=>(hval d' (by rw[hbx];rfl)).1,fun m hm=>?_⟩
   ·rcases hX _ hx with⟨j',e⟩ | ⟨t',e,h⟩<;>cases e
    exact h2 h
   ·obtain⟨keys,hkm⟩:=cx.ents t m hm;have:=hval m (by rw[hkm];rfl)
    refine⟨this.1,fun hx=>?_⟩
    rcases hX _ hx with⟨j',e⟩ | ⟨t',e,h⟩<;>cases e
    exact this.2 h
  ·exact .inr h
 ·intro k cs hc;rw[BO] at hc
  split at hc
  ·rename_i e;subst e;cases hc;exact .inr hobj
  ·rename_i hne;refine .inl ⟨hc,fun j hx=>?_⟩
   rcases hX _ hx with⟨j',e⟩ | ⟨t',e,h⟩<;>cases e
   exact hne rfl
theorem Inv.Mo{G':Gh}{w':World}{X:Tag→Prop}{T:Nat→Prop}{id:Nat}{cs':List PV}(hi:Inv cx G a w A σ)(dst:Option Nat)(v:Value)(hdst:∀u,dst=some u→(cx.kd u).val=true)
  (hid:id<σ.length) (hobj:Gx G' w' id cs') (he:Ext X G G' w w') (hbase:Base cx G' w') (hbl:G'.bl=G.bl)
  (hX:∀tg,X tg→(∃j,tg=.obj id j)∨∃t,tg=.slot t none∧T t) (hT:∀t,T t→(cx.kd t).val=true) (hl:A'.length=A.length)
  (hA:∀t p,A'.get t=some p→(¬T t∧dst≠some t∧A.get t=some p)∨DY cx G' (a.put dst v) w' t p):Inv cx G' (a.put dst v) w' A' (σ.set id cs'):=
 hi.NJ dst v hdst hid hobj he hbase (by rw[hbl]) (by rw[hbl];exact hi.abl) hX hT hl hA
theorem RN{cs:Array Value}{ds:List Value}{k:Nat}(hk:k+ds.length≤cs.size)(j:Nat):
  ((cs.toList.take k++ds++cs.toList.drop (k+ds.length)).toArray).getD j undef=if k≤j∧j<k+ds.length then ds.getD (j - k) undef else cs.getD j undef:=by
 have hcl:cs.toList.length=cs.size:=by simp
 have e1:(cs.toList.take k).length=k:=by rw[Bj,hcl];omega
 rw[Ah,Cz,BP];by_cases h1:j<k
 ·rw[Ae (by omega),BQ,if_pos h1,if_neg (by omega),Aw,Ah]
 ·rw[Al (by omega),e1]
  by_cases h2:j<k+ds.length
  ·rw[Ae (by omega),if_pos ⟨by omega,h2⟩,Aj]
  ·rw[Al (by omega),BN,if_neg (by omega),show k+ds.length+(j - k - ds.length)=j from by omega,Aw,Ah]
theorem MR{ps qs:List PV}{k:Nat}(hk:k+qs.length≤ps.length)(j:Nat):(EJ ps k qs)[j]?=if k≤j∧j<k+qs.length then qs[j - k]? else ps[j]?:=by
 have e1:(ps.take k).length=k:=by rw[Bj];omega
 unfold EJ;rw[BP];by_cases h1:j<k
 ·rw[Ae (by omega),BQ,if_pos h1,if_neg (by omega)]
 ·rw[Al (by omega),e1]
  by_cases h2:j<k+qs.length
  ·rw[Ae (by omega),if_pos ⟨by omega,h2⟩]
  ·rw[Al (by omega),BN,if_neg (by omega),show k+qs.length+(j - k - qs.length)=j from by omega]
theorem fU(hi:Inv cx G a w A σ)(hkd:∀t,cx.kd t=fi.kind t){o:Oper}{t:TypeId}{s:Nat}{x:Operand}(ho:o.op=.store t (.tmp s) x)(hod:o.dst=none)(hnb:cx.kd s≠.box){n:Nat}{ag:Bool}(hn:Ci P t=some (n,ag))
  {az:List Ct} (hc:Aq fi [x]=some az) (hrun:BV pur call { dst:=none,k:=.w (.st n),args:=.slot s::az } A σ=some (A',σ')):Gives P cx o a w A' σ':=by
 obtain⟨vs,rs,he,hs,hA,_⟩:=Hl hrun;obtain⟨y,zs,rfl,hy,hz⟩:=AL hc;cases hz;obtain⟨c,qs,rfl,_,hq⟩:=Au he;obtain⟨p,qs,rfl,hp,hq⟩:=Au hq;cases hq;obtain⟨hg,_⟩:=Dr he;cases c with
 |ref id off=>
  simp only[sem,Cq] at hs
  split at hs
  ·rename_i ps hσ
   split at hs
   ·rename_i hf;obtain⟨hf1,hf0,hf2,hf3,hf4⟩:=hf;cases hs;obtain⟨b,hb,hv⟩:=Wt hi hnb hg;obtain⟨hω,hI,cs,elem,hheap,hsz,hall⟩:=JV hi hb hσ (Q8 hf4);have hrep:=(Ba hi hkd hy hp (Ij hf2)).Ag;have hok:p.Ag.okc=true:=by rw[F7];exact hf2
    have hcl:=IQ.M4 hrep hok;have hvs:(a.eval x).cells.size=n:=by have:=hcl.1;rw[CP,hf1] at this;simpa using this
    let arr:Array Value:=(cs.toList.take off++(a.eval x).cells.toList++cs.toList.drop (off+(a.eval x).cells.toList.length)).toArray
    have hext:=GJ (G:=G) (w:=w) (X:=fun tg=>tg=.obj id none) hω hI rfl arr
    have hrun':(Instr.storeAt t (.pointer (some ⟨b,off,none⟩)) (a.eval x)).run P w=.ok () (w.setRow b arr):=
     Fp hn hheap hvs (NG hrep hok (by rw[GV];exact hf3)) (by omega)
    have hev:a.eval (.tmp s)=.pointer (some ⟨b,off,none⟩):=hv;rw[hA rfl];refine .inr ⟨w.setRow b arr,by simp[execOp,ho,hev,hrun'],G,?_⟩
    rw[hod];refine hi.Mo (X:=fun tg=>tg=.obj id none) (T:=fun _=>False) none undef (by simp) (Ab.1 hσ).1 ⟨b,hb,.inl ?_⟩ hext (Gi hi.base hω hI _) rfl (fun tg h=>.inl ⟨none,h⟩) (fun _ h=>h.elim) (by rw[DZ]) ?_
    ·refine JF hω hI (setRow_heap _ _ _ _ _ _ hheap) hsz (by rw[CP];omega) (by rw[CP,hf1];simpa using hvs) ?_ ?_
     ·intro j q hq _;exact(hall j q hq).ext hext (by simp)
     ·intro j q hq;obtain⟨c,hc,hr⟩:=hcl.2 j q hq;exact⟨c,hc,.inl ⟨hr.mono hext.I hext.same hext.bl,EO hq ..⟩⟩
    ·intro r q hq;exact .inl ⟨fun h=>h,by simp,hq⟩
   ·cases hs
  ·cases hs
 |aptr id gen size i off=>
  simp only[sem,Cq] at hs
  split at hs
  ·rename_i ps hσ
   split at hs
   ·rename_i es hes
    split at hs
    ·rename_i e he'
     split at hs
     ·rename_i hf;obtain⟨hf1,hf2,hf3⟩:=hf;obtain⟨e',hup,ee⟩:=Ac.1 hs;cases ee;have:=Jm hes;subst this;obtain⟨b0,base0,n0,hb,hv⟩:=(V7 hi hnb hg rfl).Ir;obtain⟨b',base,m,cs,elem,h1,h2,hω,hI,hheap,h6,h7,h8,h9⟩:=Ob hi hσ;rw[hb] at h1;cases h1;obtain⟨hl,hall⟩:=h9 i e he';have hlt:=(Ab.1 he').1;have hmul:(i+1) * size≤es.length * size:=Bv _ hlt;rw[CK] at hmul;obtain⟨hce,hle⟩:=Ma hup;have hrep:=(Ba hi hkd hy hp (Ij hf2)).Ag;have hok:p.Ag.okc=true:=by rw[F7];exact hf2
      have hcl:=IQ.M4 hrep hok;have hdl:p.Ag.cells.length=n:=by rw[CP,hf1]
      have hvs:(a.eval x).cells.size=n:=by have:=hcl.1;rw[hdl] at this;simpa using this
      have hvl:(a.eval x).cells.toList.length=n:=by simpa using hvs
      let k:=base0+i * size+off
      let arr:Array Value:=(cs.toList.take k++(a.eval x).cells.toList++cs.toList.drop (k+(a.eval x).cells.toList.length)).toArray
      have hkn:k+n≤cs.size:=by show base0+i * size+off+n≤cs.size;omega
      have hext:=GJ (G:=G) (w:=w) (X:=fun tg=>tg=.obj id none) hω hI rfl arr
      have hrun':(Instr.storeAt t (.pointer (some ⟨b0,k,none⟩)) (a.eval x)).run P w=.ok () (w.setRow b0 arr):=
       Fp hn hheap hvs (NG hrep hok (by rw[GV];exact hf3)) hkn
      have hev:a.eval (.tmp s)=.pointer (some ⟨b0,k,none⟩):=hv;rw[hA rfl];refine .inr ⟨w.setRow b0 arr,by simp[execOp,ho,hev,hrun'],G,?_⟩
      rw[hod];obtain⟨bo,hbo,_⟩:=hi.obj id _ hσ
      refine hi.Mo (X:=fun tg=>tg=.obj id none) (T:=fun _=>False) none undef (by simp) (Ab.1 hσ).1
       ⟨bo,hbo,.inr (.inr (.inr (.inl ⟨gen,size,es.set i e',rfl,b0,base0,n0,arr,elem,hb,h2,hω,hI,setRow_heap _ _ _ _ _ _ hheap,?_,h7,by rw[Bo];exact h8,?_⟩)))⟩ hext (Gi hi.base hω hI _) rfl (fun tg h=>.inl ⟨none,h⟩) (fun _ h=>h.elim) (by rw[DZ]) ?_
      ·show arr.size=n0;simp only[arr,CL,AV,Bj,CX,hvl,Array.length_toList];omega
      ·intro i' e'' hi';rw[BO] at hi'
       split at hi'
       ·rename_i hii;subst hii;cases hi';rw[hce];refine⟨by unfold EJ;simp only[AV,Bj,CX];omega,fun j q hq=>?_⟩
        rw[MR hle] at hq;show Bu G.I G.bl _ (arr.getD (base0+i * size+j) undef) q;rw[show arr.getD (base0+i * size+j) undef=_ from RN (by rw[hvl];exact hkn) _]
        split at hq
        ·rename_i hc;obtain⟨c,hc1,hc2⟩:=hcl.2 _ _ hq;rw[if_pos (by show base0+i * size+off≤_∧_<base0+i * size+off+_;rw[hvl,←hdl];omega)]
         rw[show base0+i * size+j - k=j - off by show base0+i * size+j - (base0+i * size+off)=_;omega,Aj,hc1]
         exact hc2.mono hext.I hext.same hext.bl
        ·rename_i hc;rw[if_neg (by show ¬(base0+i * size+off≤_∧_<base0+i * size+off+_);rw[hvl,←hdl];omega)]
         exact(hall j q hq).mono hext.I hext.same hext.bl
       ·rename_i hii;obtain⟨q1,q2⟩:=h9 i' e'' hi';refine⟨q1,fun j q hq=>?_⟩
        have hj:j<size:=by rw[←q1];exact(Ab.1 hq).1
        show Bu G.I G.bl _ (arr.getD (base0+i' * size+j) undef) q;rw[show arr.getD (base0+i' * size+j) undef=_ from RN (by rw[hvl];exact hkn) _]
        rw[if_neg]
        ·exact(q2 j q hq).mono hext.I hext.same hext.bl
        ·show ¬(base0+i * size+off≤_∧_<base0+i * size+off+_);rw[hvl];rcases Nat.lt_or_gt_of_ne hii with hlt' | hgt'
         ·have:(i+1) * size≤i' * size:=Bv _ hlt';rw[CK] at this;omega
         ·have:(i'+1) * size≤i * size:=Bv _ hgt';rw[CK] at this;omega
      ·intro r q hq;exact .inl ⟨fun h=>h,by simp,hq⟩
     ·cases hs
    ·cases hs
   ·cases hs
  ·cases hs
 |_=>simp[sem,Cq] at hs
theorem ai{c:PV}{r:List (Option PV)×Sto}(h:Cq pur call .ldo [c] σ=some r):∃id off cs v,c=.ref id off∧σ[id]?=some cs∧cs[off]?=some v∧v.Io=true∧r=([some v],σ.set id (EJ cs off [v.Ag])):=by
 cases c with
 |ref id off=>
  simp only[Cq] at h
  split at h
  ·rename_i cs hσ
   split at h
   ·rename_i v hv;cases v<;>first | (cases h;done) | (cases h;exact⟨id,off,cs,_,rfl,hσ,hv,rfl,rfl⟩)
   ·cases h
  ·cases h
 |_=>simp[Cq] at h
theorem nZ(hi:Inv cx G a w A σ)(hkd:∀t,cx.kd t=fi.kind t)(hnt:cx.nt=fi.nt){o:Oper}{t:TypeId}{x:Operand}{u:Nat}(ho:o.op=.load t x)(hod:o.dst=some u){n:Nat}(hn:Ci P t=some (n,false))
  (hu:CJ fi u=true) {az:List Ct} (hc:Aq fi [x]=some az) (hrun:BV pur call { dst:=some u,k:=.w .ldo,args:=az } A σ=some (A',σ')):Gives P cx o a w A' σ':=by
 obtain⟨vs,rs,he,hs,hA,_⟩:=Hl hrun;obtain⟨y,zs,rfl,hy,hz⟩:=AL hc;cases hz;obtain⟨c,qs,rfl,hp,hq⟩:=Au he;cases hq;simp only[sem] at hs;obtain⟨id,off,ps,v,rfl,hσ,hv,hsl,e⟩:=ai hs;cases e;have huv:=En hkd hnt hu;obtain⟨b,hb,hev⟩:=(Ba hi hkd hy hp rfl).Ho;have hcell:=JV hi hb hσ (bV hv hsl)
 have hsub:sub (.agg ps) off n false=some v:=by
  simp only[sub,PV.cells,hv];rw[if_neg];intro e;cases v<;>simp[PV.isAgg,PV.isSelf,PV.Io] at e hsl
 obtain⟨x',hr1,hr2⟩:=GU (P:=P) (c:=.agg ps) hn hcell hsub;have hcell':=hcell;obtain⟨hω,hI,cs,elem,hheap,hsz,hall⟩:=hcell;have hlt:off<cs.size:=by have:=(Ab.1 hv).1;omega
 have hx:x'=cs.getD off undef:=by
  have:(Instr.loadAt t (.pointer (some ⟨b,off,none⟩))).run P w=.ok (cs.getD off undef) w:=by
   have hcc:w.cell? ⟨b,off,none⟩=some (cs.getD off undef):=by simp[World.cell?,hheap,Array.getD,hlt]
   simp[Instr.loadAt,Instr.sureAddr,loadVar,GR hn,hcc]
  rw[this] at hr1;cases hr1;rfl
 subst hx;obtain⟨G',e1,e2,hext,hbase,how⟩:=UX (t1:=.slot u none) hi.base ((hall off v hv).rep (Ms hsl)).2;rw[hA rfl];refine .inl ⟨cs.getD off undef,w,by simp[execOp,ho,hev,hr1],G',?_⟩
 rw[hod];refine hi.Mo (X:=fun tg=>tg=.obj id (some off)) (T:=fun _=>False) (some u) _ (fun u' e=>by cases e;exact huv.2) (Ab.1 hσ).1 ⟨b,by rw[e2];exact hb,.inl ?_⟩ hext hbase e2 (fun tg h=>.inl ⟨_,h⟩) (fun _ h=>h.elim) (by rw[DZ]) ?_
 ·exact SE (Ms hsl) hcell' hv e1 hext (fun i j e=>by cases e;rfl)
 ·intro r q hq;simp only[AOp.wr,Option.toList,Bh,BD,CV] at hq;rw[C8] at hq
  split at hq
  ·rename_i h;cases hq;refine .inr ?_
   rw[h.1,BL huv.2 (I4 hsl),EL _ _ _ (by rw[hi.size];exact huv.1)]
   exact⟨hr2.mono hext.I hext.same hext.bl,how⟩
  ·rename_i h;exact .inl ⟨fun h=>h,fun e=>h ⟨(Option.some.inj e).symm,by have:=hi.room;omega⟩,hq⟩
theorem ny{c v:PV}{r:List (Option PV)×Sto}(h:Cq pur call .sto [c,v] σ=some r):∃id off cs,c=.ref id off∧σ[id]?=some cs∧v.Io=true∧off+1≤cs.length∧cs.any PV.isSelf=false∧r=([some v.Ag],σ.set id (EJ cs off [v])):=by
 cases c with
 |ref id off=>
  simp only[Cq] at h
  split at h
  ·rename_i cs hσ;cases v<;>first | (cases h;done) | (dsimp only at h;split at h<;>first | (cases h;done) | (rename_i hc;cases h;exact⟨id,off,cs,rfl,hσ,rfl,hc.1,hc.2,rfl⟩))
  ·cases h
 |_=>simp[Cq] at h
theorem nG(hi:Inv cx G a w A σ)(hkd:∀t,cx.kd t=fi.kind t)(hnt:cx.nt=fi.nt){o:Oper}{t:TypeId}{s u:Nat}(ho:o.op=.store t (.tmp s) (.tmp u))(hod:o.dst=none)(hnb:cx.kd s≠.box){n:Nat}{ag:Bool}(hn:Ci P t=some (n,ag))(hn1:n=1)
  (hu:CJ fi u=true) (hrun:BV pur call { dst:=none,k:=.w .sto,args:=[.slot s,.slot u],ex:=[u] } A σ=some (A',σ')):Gives P cx o a w A' σ':=by
 subst hn1;obtain⟨vs,rs,he,hs,hA,_⟩:=Hl hrun;obtain⟨c,qs,rfl,_,hq⟩:=Au he;obtain⟨p,qs,rfl,hp,hq'⟩:=Au hq;cases hq';obtain⟨hgs,_⟩:=Dr he;simp only[sem] at hs;obtain⟨id,off,ps,rfl,hσ,hsl,hle,hns,e⟩:=ny hs;cases e;have huv:=En hkd hnt hu;obtain⟨b,hb,hev'⟩:=Wt hi hnb hgs;obtain⟨hrT,how⟩:=Lc hi huv.2 hp (I4 hsl);have hrep:=Xw hrT hsl;obtain⟨G',e1,e2,hext1,hbase1,how1⟩:=UX (t1:=.obj id (some off)) hi.base how;obtain⟨hω,hI,cs,elem,hheap,hsz,hall⟩:=JV hi hb hσ (Q8 hns);have hω':G'.ω b=some (.obj id none):=(hext1.fix b _ hω (by simp)).1
 have hI':∀x,¬G'.I b x:=by rw[e1];exact hI
 have hvc:=Xv hrep hsl
 let arr:Array Value:=(cs.toList.take off++(at' a u).cells.toList++cs.toList.drop (off+(at' a u).cells.toList.length)).toArray
 have hext2:=GJ (G:=G') (w:=w) (X:=fun tg=>tg=.obj id none) hω' hI' rfl arr
 have hext:Ext (fun tg=>tg=.slot u none∨tg=.obj id none) G G' w (w.setRow b arr):=(hext1.weaken (fun _ h=>.inl h)).trans (hext2.weaken (fun _ h=>.inr h))
 have hrun':(Instr.storeAt t (.pointer (some ⟨b,off,none⟩)) (at' a u)).run P w=.ok () (w.setRow b arr):=
  Fp hn hheap (by rw[hvc];rfl) (NF hrep (TZ hsl)) (by rw[hsz];exact hle)
 have hev:a.eval (.tmp s)=.pointer (some ⟨b,off,none⟩):=hev';have hevu:a.eval (.tmp u)=at' a u:=rfl;rw[hA rfl];refine .inr ⟨w.setRow b arr,by simp[execOp,ho,hev,hevu,hrun'],G',?_⟩
 rw[hod];refine hi.Mo (X:=fun tg=>tg=.slot u none∨tg=.obj id none) (T:=fun t=>t=u) none undef (by simp) (Ab.1 hσ).1 ⟨b,by rw[e2];exact hb,.inl ?_⟩ hext (Gi hbase1 hω' hI' _) e2 ?_ (fun t h=>by rw[h];exact huv.2) (by rw[DZ]) ?_
 ·refine JF hω' hI' (setRow_heap _ _ _ _ _ _ hheap) hsz hle (by rw[hvc];rfl) ?_ ?_
  ·intro j q hq _;exact((hall j q hq).ext hext1 (by simp)).ext hext2 (by simp)
  ·intro j q hq;cases j with
   |zero=>
    simp at hq;subst hq;exact⟨at' a u,by rw[hvc];rfl,.inl ⟨.one (.inl (hrep.mono hext.I hext.same)),how1.ext hext2 (by simp)⟩⟩
   |succ j=>simp at hq
 ·intro tg h;rcases h with h | h
  ·exact .inr ⟨u,h,rfl⟩
  ·exact .inl ⟨none,h⟩
 ·intro r q hq;simp only[AOp.wr,Option.toList,Bh,BD,BK,CV] at hq;rw[C8] at hq
  split at hq
  ·rename_i h;cases hq;refine .inr ?_
   rw[h.1,BL huv.2 (by rw[C9];exact I4 hsl)]
   exact⟨.one (.inl (hrep.mono hext.I hext.same).Ag),Cj p⟩
  ·rename_i h1;exact .inl ⟨fun e=>h1 ⟨e,by have:=hi.room;omega⟩,by simp,hq⟩
end
end Go.Abs
