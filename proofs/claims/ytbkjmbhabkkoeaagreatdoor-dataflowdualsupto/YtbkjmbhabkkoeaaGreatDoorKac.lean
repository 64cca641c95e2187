/- A part of the proof: A12 A13 A14 A15 A16 A17 A18 A19 A20 A21 A22. -/
import Derived.Test.YtbkjmbhabkkoeaaGreatDoorKab
import Derived.Laws.Tables
import Derived.MapKept
import Derived.Laws.CopyRow
import Derived.Laws.Append
import Derived.Deep.AppendSrc
import Derived.Deep.Upon

set_option linter.unusedVariables false
set_option linter.unusedSimpArgs false
namespace Go.Abs
open Go.RowKit
section
variable{P:Program}{pur:FuncId→Bool}{call:Caller}{fi:FI}{cx:Cx}{G:Gh}{a:Act}{w:World}{A A':Frm}{σ σ':Sto}
theorem FB{I:Imm}{v:Value}{p:PV}(h:Rep I w v p):v.cells.size=p.cells.length∧∀(j:Nat) (q:PV),p.cells[j]?=some q→Rep I w (v.cells.getD j undef) q:=by
 cases h with
 |agg h hr=>exact⟨h,hr⟩
 |_=>
  refine⟨rfl,fun j q hq=>?_⟩
  cases j with
  |zero=>
   simp only[PV.cells,List.getElem?_cons_zero,Option.some.injEq] at hq
   subst hq
   constructor<;>assumption
  |succ j=>simp[PV.cells] at hq
theorem foldl_set(l:List Value):∀(s off:Nat) (cells:Array Value),off+s+l.length≤cells.size→
  (l.zipIdx s).foldl (fun(cs:Array Value) (x:Value×Nat)=>cs.setIfInBounds (off+x.2) x.1) cells = 
   (cells.toList.take (off+s)++l++cells.toList.drop (off+s+l.length)).toArray:=by
 induction l with
 |nil=>intro s off cells h;simp
 |cons v l ih=>
  intro s off cells h;simp only[List.zipIdx_cons,Cn];simp only[BI] at h;rw[ih (s+1) off _ (by simp;omega)]
  apply congrArg;have hlt:off+s<cells.toList.length:=by simp;omega
  have e1:(cells.setIfInBounds (off+s) v).toList=cells.toList.set (off+s) v:=by simp
  rw[e1];rw[show off+(s+1)=(off+s)+1 from by omega,List.take_set,List.drop_set,if_pos (by omega)]
  have e2:(cells.toList.take (off+s+1)).set (off+s) v=cells.toList.take (off+s)++[v]:=by
   rw[List.take_succ_eq_append_getElem hlt,List.set_append_right _ _ (by simp;omega)]
   have:off+s - (cells.toList.take (off+s)).length=0:=by rw[Bj];omega
   rw[this];rfl
  rw[e2];simp only[BI,BP,CF,BK];rw[show off+s+1+l.length=off+s+(l.length+1) from by omega]
theorem R3(v:Value)(off:Nat)(cells:Array Value)(h:off+v.cells.size≤cells.size):
  v.cells.zipIdx.foldl (fun(cs:Array Value) (x:Value×Nat)=>cs.setIfInBounds (off+x.2) x.1) cells=(cells.toList.take off++v.cells.toList++cells.toList.drop (off+v.cells.size)).toArray:=by
 have:=foldl_set v.cells.toList 0 off cells (by simpa using h)
 rw[←Ew,Array.toList_zipIdx];simpa using this
def Nq(R:Value→PV→Prop)(cs:List Value)(ps:List PV):Prop:=cs.length=ps.length∧∀(i:Nat) (p:PV),ps[i]?=some p→∃c,cs[i]?=some c∧R c p
abbrev O8(I:Imm)(w:World)(cs:List Value)(ps:List PV):Prop:=Nq (Rep I w) cs ps
theorem Nq.place{R:Value→PV→Prop}{cs:List Value}{ps:List PV}(h:Nq R cs ps){ds:List Value}{qs:List PV}(h':Nq R ds qs)(off:Nat)(hl:off+qs.length≤ps.length):
  Nq R (cs.take off++ds++cs.drop (off+ds.length)) (EJ ps off qs):=by
 unfold EJ;refine⟨by simp[h.1,h'.1],fun i p hp=>?_⟩
 have e1:(cs.take off).length=off:=by rw[Bj,h.1];omega
 have e2:(ps.take off).length=off:=by rw[Bj];omega
 rw[BP] at hp ⊢;by_cases h1:i<off
 ·rw[Ae (by omega)] at hp ⊢
  rw[BQ,if_pos h1] at hp ⊢;exact h.2 i p hp
 ·rw[Al (by omega),e2] at hp
  rw[Al (by omega),e1]
  by_cases h2:i - off<qs.length
  ·rw[Ae h2] at hp;rw[Ae (by rw[h'.1];exact h2)]
   exact h'.2 _ p hp
  ·rw[Al (by omega),BN] at hp
   rw[Al (by rw[h'.1];omega),BN,h'.1]
   exact h.2 _ p hp
theorem O8.OG{I:Imm}{v:Value}{p:PV}(h:Rep I w v p):O8 I w v.cells.toList p.cells:=by
 obtain⟨h1,h2⟩:=FB h;refine⟨by simpa using h1,fun i q hq=>?_⟩
 have hlt:i<v.cells.size:=by have:=(Ab.1 hq).1;omega
 refine⟨v.cells[i],by rw[Aw];exact Az hlt,?_⟩
 have:=h2 i q hq;simpa [Array.getD,hlt] using this
theorem O8.agg{I:Imm}{cs:Array Value}{ps:List PV}(h:O8 I w cs.toList ps):Rep I w (.agg cs) (.agg ps):=by
 refine .agg (by simpa using h.1) fun i p hp=>?_
 obtain⟨c,hc,hr⟩:=h.2 i p hp;rw[Aw] at hc;rw[Ah,hc];exact hr
theorem lD{p:PV}(h:p.okt=true):p.free=true:=by
 cases p<;>first | rfl | simp[PV.okt,PV.flat,PV.EF] at h
theorem Nq.mono{R S:Value→PV→Prop}{cs:List Value}{ps:List PV}(h:Nq R cs ps)(hs:∀c p,p∈ps→R c p→S c p):Nq S cs ps:=
 ⟨h.1,fun i p hp=>let ⟨c,h1,h2⟩:=h.2 i p hp;⟨c,h1,hs c p (AA hp) h2⟩⟩
theorem F6.Zd{bl:Bl}{v:Value}{p:PV}(h:F6 bl v p):v.cells.toList=[v]∧p.Ag.cells=[p]:=by cases h<;>exact⟨rfl,rfl⟩
theorem Zd{I:Imm}{bl:Bl}{v:Value}{p:PV}(h:Bu I bl w v p)(hp:p.okt=true):Nq (GL I bl w) v.cells.toList p.Ag.cells:=by
 have key:(p.flat||p.EF)=true→Nq (GL I bl w) v.cells.toList p.Ag.cells:=by
  intro hf;rcases h.iJ hf with h1 | h1
  ·exact(O8.OG h1.Ag).mono fun _ _ _ h=>.inl h
  ·obtain⟨e1,e2⟩:=h1.Zd;rw[e1,e2];refine⟨rfl,fun i q hq=>?_⟩
   cases i with
   |zero=>simp at hq;subst hq;exact⟨v,rfl,.inr h1⟩
   |succ i=>simp at hq
 cases p with
 |aggr ps=>
  obtain⟨cs,rfl,h1,h2⟩:=h.LX;show Nq _ cs.toList (ps.map PV.D8);refine⟨by simpa using h1,fun i q hq=>?_⟩
  rw[Af] at hq;obtain⟨q',hq',rfl⟩:=Ac.1 hq;have hlt:i<cs.size:=by have:=(Ab.1 hq').1;omega
  refine⟨cs[i],by rw[Aw];exact Az hlt,?_⟩
  have h3:=h2 i q' hq';simp only[Array.getD,hlt,dif_pos] at h3;rcases h3 with h3 | h3
  ·exact .inl h3.D8
  ·rw[h3.D8];exact .inr h3
 |_=>exact key hp
theorem Uv{I:Imm}{bl:Bl}{cs:Array Value}{ps:List PV}{r:PV}(h:Nq (GL I bl w) cs.toList ps)(ha:Iu ps=some r):Bu I bl w (.agg cs) r∧r.free=true∧r.cells=ps∧(r=.agg ps∨r=.aggr ps):=by
 unfold Iu at ha
 split at ha
 ·rename_i hf;cases ha;refine⟨.one (.inl (O8.agg (h.mono fun c p hp hr=>?_))),rfl,rfl,.inl rfl⟩
  rcases hr with hr | hr
  ·exact hr
  ·have:=Ao.1 hf p hp;rw[hr.jG] at this;cases this
 ·split at ha
  ·cases ha;refine⟨.aggr (by simpa using h.1) fun i p hp=>?_,rfl,rfl,.inr rfl⟩
   obtain⟨c,hc,hr⟩:=h.2 i p hp;rw[Aw] at hc;rw[Ah,hc];exact hr
  ·cases ha
theorem XL{I:Imm}{bl:Bl}{places:List (Nat×Nat)}:∀(parts:List (Nat×Operand)) (pl:List (Nat×Nat)) (vs:List PV) (cells:Array Value) (cs cs':List PV),
  Jc places parts=some pl→Sb cs pl vs=some cs'→Nq (GL I bl w) cells.toList cs→
  (∀(i:Nat) (x:Nat×Operand) (p:PV),parts[i]?=some x→vs[i]?=some p→p.okt=true→Bu I bl w (a.eval x.2) p)→
  ∃cells',Instr.fill (places.toArray[·]?) cells (parts.map fun x=>(x.1,a.eval x.2))=some cells'∧Nq (GL I bl w) cells'.toList cs'
 |[],pl,vs,cells,cs,cs',hp,hf,hr,_=>by
  cases hp;cases vs with
  |nil=>simp only[Sb] at hf;cases hf;exact⟨cells,rfl,hr⟩
  |cons _ _=>simp[Sb] at hf
 |(i,x)::parts,pl,vs,cells,cs,cs',hp,hf,hr,hrep=>by
  simp only[Jc] at hp
  split at hp
  ·rename_i p ps h1 h2;cases hp;obtain⟨off,n⟩:=p;cases vs with
   |nil=>simp[Sb] at hf
   |cons v vs=>
    simp only[Sb] at hf
    split at hf
    ·rename_i hc;obtain⟨hc1,hc2,hc3⟩:=hc;have hcell:=Zd (hrep 0 (i,x) v rfl rfl hc3) hc3;have hsz:(a.eval x).cells.size=v.cells.length:=by have:=hcell.1;rw[CP] at this;simpa using this
     have hlen:cells.size=cs.length:=by simpa using hr.1
     have hnew:Nq (GL I bl w) ((a.eval x).cells.zipIdx.foldl (fun(cs:Array Value) (x:Value×Nat)=>cs.setIfInBounds (off+x.2) x.1) cells).toList (EJ cs off v.Ag.cells):=by
      rw[R3 _ _ _ (by omega)]
      have:=hr.place hcell off (by rw[CP];omega)
      simpa using this
     obtain⟨cells',h3,h4⟩:=XL parts ps vs _ _ cs' h2 hf hnew (fun k y p hy hp hfl=>hrep (k+1) y p (by simpa using hy) (by simpa using hp) hfl)
     refine⟨cells',?_,h4⟩
     have hpl:places.toArray[i]?=some (off,n):=by simpa using h1
     simp only[AR,Instr.fill,hpl];rw[if_neg (by simp;omega)]
     exact h3
    ·cases hf
  ·cases hp
theorem bg(hi:Inv cx G a w A σ)(hkd:∀t,cx.kd t=fi.kind t)(hnt:cx.nt=fi.nt){o:Oper}{t:TypeId}{ps:Array (Nat×Operand)}(ho:o.op=.build t ps)
  {fs:Array Field} (hs':P.underlying t=some (.struct fs)) {z:List PV} (hz:EP P t=some (.agg z)) {places:List (Nat×Nat)}
  (hpl:fs.toList.mapM (fun f=>(P.info? f.type).map fun i=>(f.offset,i.size))=some places) {pl:List (Nat×Nat)} (hpp:Jc places ps.toList=some pl)
  {az:List Ct} (hc:Aq fi (ps.toList.map (·.2))=some az) (hd:BA fi o.dst=true) (hrun:BV pur call { dst:=o.dst,k:=.p (.build z pl),args:=az } A σ=some (A',σ')):Gives P cx o a w A' σ':=by
 refine RI hi hkd hnt hd hrun hc fun vs rs hs hl hrep=>?_
 simp only[AJ] at hs;obtain⟨cs',hcs,hs⟩:=AO.1 hs;obtain⟨r,hr,e⟩:=Ac.1 hs;cases e;unfold EP at hz
 split at hz
 ·rename_i it hit;obtain⟨zv,hzv,hzp⟩:=AO.1 hz;have hzr:Rep G.I w zv (.agg z):=EN hzp
  obtain⟨cells',h1,h2⟩:=XL (a:=a) (I:=G.I) (bl:=G.bl) (w:=w) ps.toList pl vs zv.cells z cs' hpp hcs ((by simpa [PV.cells] using O8.OG hzr:O8 G.I w zv.cells.toList z).mono fun _ _ _ h=>.inl h) (fun i x p hx hp hfl=>by
   exact hrep i x.2 p (by rw[Af,hx];rfl) hp (lD hfl))
  have hb:P.built t (ps.map fun(i,x)=>(i,a.eval x)).toList=some cells':=by
   unfold Program.built;simp only[hit,hs',hzv,hpl];rw[←h1];congr 1;simp
  obtain⟨hrt,hfr,_,hsh⟩:=Uv h2 hr;refine⟨_,.agg cells',rfl,hfr,?_,hrt,fun _=>by rcases hsh with rfl | rfl<;>trivial⟩
  simp[execOp,ho,run_build w t _ cells' hb]
 ·cases hz
theorem UC{k k':Ky}(h:k.val=k'.val):k=k':=by
 cases k<;>cases k'<;>simp[Ky.val] at h
 ·obtain⟨rfl,rfl⟩:=h;rfl
 ·rename_i l l';rw[h]
theorem Wm{d:TypeDesc}{k k':Ky}(hk:sameKind k k'=true)(hd:(∃i,d=.int i)∧(∃i n,k=.i i n)∨d=.string∧∃l,k=.s l):
  Instr.sameNow d k.val k'.val=some (decide (k'=k)):=by
 rcases hd with⟨⟨i,rfl⟩,j,n,rfl⟩ | ⟨rfl,l,rfl⟩
 ·cases k' with
  |i j' n'=>
   simp only[sameKind,beq_iff_eq] at hk;subst hk;simp only[Ky.val,Instr.sameNow,if_true];congr 1;by_cases h:n=n'
   ·subst h;simp
   ·have:¬(Ky.i j n'=Ky.i j n):=fun e=>by cases e;exact h rfl
    rw[decide_eq_false this,beq_eq_false_iff_ne];exact h
  |s l=>simp[sameKind] at hk
 ·cases k' with
  |i j' n'=>simp[sameKind] at hk
  |s l'=>
   simp only[Ky.val,Instr.sameNow];congr 1;by_cases h:l=l'
   ·subst h;rw[decide_eq_true rfl];exact(Go.MapKept.bytes_beq _ _).2 rfl
   ·have h1:¬(Ky.s l'=Ky.s l):=fun e=>by cases e;exact h rfl
    rw[decide_eq_false h1];cases hb:((⟨⟨l⟩⟩:ByteArray)==⟨⟨l'⟩⟩) with
    |false=>rfl
    |true=>have:=(Go.MapKept.bytes_beq _ _).1 hb;cases this;exact absurd rfl h
theorem Kv{d:TypeDesc}{k:Ky}(hd:(∃i,d=.int i)∧(∃i n,k=.i i n)∨d=.string∧∃l,k=.s l):∀(es:List MapEntry) (s:Nat),
  (∀e∈es,∃k',e.key=k'.val∧sameKind k k'=true) → 
  (∃j e,es[j]?=some e∧e.key=k.val∧Instr.findNow d k.val es s=some (some (s+j,e.val)))∨((∀e∈es,e.key≠k.val)∧Instr.findNow d k.val es s=some none)
 |[],s,_=>.inr ⟨(fun e h=>by cases h),rfl⟩
 |e::es,s,h=>by
  obtain⟨k',h1,h2⟩:=h e (BG ..);have hsn:=Wm h2 hd;simp only[Instr.findNow,h1,hsn];by_cases hk:k'=k
  ·subst hk;rw[decide_eq_true rfl];exact .inl ⟨0,e,rfl,h1,rfl⟩
  ·rw[decide_eq_false hk];rcases Kv hd es (s+1) (fun e he=>h e (Bw _ he)) with⟨j,e',he,hke,hf⟩ | ⟨hno,hf⟩
   ·exact .inl ⟨j+1,e',by simpa using he,hke,by rw[hf,show s+1+j=s+(j+1) from by omega]⟩
   ·refine .inr ⟨fun e' he'=>?_,hf⟩
    rcases Av.1 he' with rfl | h'
    ·rw[h1];exact fun e=>hk (UC e)
    ·exact hno e' h'
theorem NW(k:Ky):∀(ks:List Ky) (vs:List PV),vs.length=ks.length→(∀v,findKey k ks vs=some v→∃j:Nat,ks[j]?=some k∧vs[j]?=some v)∧(findKey k ks vs=none→k∉ks)
 |[],vs,_=>by cases vs<;>simp[findKey]
 |x::ks,[],h=>by simp at h
 |x::ks,v::vs,h=>by
  obtain⟨h1,h2⟩:=NW k ks vs (by simpa using h)
  simp only[findKey];split
  ·rename_i hx;subst hx;exact⟨fun u hu=>⟨0,rfl,by simpa using hu⟩,fun h=>by cases h⟩
  ·rename_i hx;refine⟨fun u hu=>?_,fun hn=>?_⟩
   ·obtain⟨j,hj1,hj2⟩:=h1 u hu;exact⟨j+1,by simpa using hj1,by simpa using hj2⟩
   ·simp only[Av,not_or];exact⟨fun e=>hx e.symm,h2 hn⟩
theorem Bu.jN{I:Imm}{bl:Bl}{v:Value}{ks:List Ky}{vs:List PV}(h:Bu I bl w v (.mapv ks vs)):∃r clock es,∃ix:Nat→Nat,v=.map (some r)∧w.heap[r]?=some (.map es clock)∧vs.length=ks.length∧
  (∀(i:Nat) (e:MapEntry),es[i]?=some e→∃k∈ks,e.key=k.val)∧(∀(i j:Nat) (e f:MapEntry),es[i]?=some e→es[j]?=some f→e.key=f.key→i=j)∧
  (∀(j:Nat) (k:Ky),ks[j]?=some k→((es[ix j]?).map (·.key))=some k.val)∧(∀(j:Nat) (e:MapEntry) (p:PV),es[ix j]?=some e→vs[j]?=some p→Rep I w e.val p):=by
 cases h.rep rfl (by simp) (by simp) with
 |mapv ix h1 h2 h3 h4 h5 h6 h7=>exact⟨_,_,_,ix,rfl,h2,h3,h4,h5,h6,h7⟩
theorem run_checkKey{empty:Bool}{t:TypeId}{d:TypeDesc}(ht:P.underlying t=some d)(hd:(∃k,d=.int k)∨d=.string)(v:Value):(Instr.checkKey empty 10000 t v).run P w=.ok () w:=by
 show(Instr.checkKey empty (9999+1) t v).run P w=_;generalize 9999=n;rcases hd with⟨k,rfl⟩ | rfl<;>simp[Instr.checkKey,underlying,ht]
theorem Ru{p:PV}{k:Ky}(h:OL p=some k){v:Value}{I:Imm}{bl:Bl}(hr:Bu I bl w v p):v=k.val:=by
 cases p with
 |int i n=>simp only[OL] at h;cases h;exact hr.Db
 |str l=>
  simp only[OL] at h;cases h;obtain⟨s,rfl,rfl⟩:=hr.Gz;cases s;rfl
 |_=>simp[OL] at h
theorem Ng{p:PV}{k:Ky}(h:OL p=some k):p.free=true:=by cases p<;>first | rfl | simp[OL] at h
theorem We(hi:Inv cx G a w A σ)(hkd:∀t,cx.kd t=fi.kind t)(hnt:cx.nt=fi.nt){o:Oper}{t kt et:TypeId}{x y:Operand}{ok:Bool}(ho:o.op=.lookup t x y ok)(ht:P.underlying t=some (.map kt et))
  {d:TypeDesc} (hkt:P.underlying kt=some d) (hdk:(∃k,d=.int k)∨d=.string) {z:PV} (hz:EP P et=some z)
  {az:List Ct} (hc:Aq fi [x,y]=some az) (hd:BA fi o.dst=true) (hrun:BV pur call { dst:=o.dst,k:=.p (.look z ok d.isInt),args:=az } A σ=some (A',σ')):Gives P cx o a w A' σ':=by
 refine RJ hi hkd hnt hd hrun hc (Oq (V:=Xd z ok d.isInt) (fun _ _=>rfl) rfl (fun _=>rfl) (fun _ _ _ _=>rfl)) fun x' y' p q r hx hv hp hq=>?_
 cases hx;cases p with
 |mapv ks vs=>
  obtain⟨rr,clock,es,ix,ev,hheap,hlen,hkeys,hone,hlt,hrv⟩:=(hp rfl).jN;simp only[Xd] at hv
  split at hv
  ·rename_i k hk;have eq:=Ru hk (hq (Ng hk))
   split at hv
   ·rename_i hc';obtain⟨hall,hint⟩:=hc'
    have hdd:(∃i,d=.int i)∧(∃i n,k=.i i n)∨d=.string∧∃l,k=.s l:=by
     rcases hdk with⟨i,rfl⟩ | rfl
     ·cases k with
      |i j n=>exact .inl ⟨⟨i,rfl⟩,j,n,rfl⟩
      |s l=>simp[TypeDesc.isInt,Ky.isInt] at hint
     ·cases k with
      |i j n=>simp[TypeDesc.isInt,Ky.isInt] at hint
      |s l=>exact .inr ⟨rfl,l,rfl⟩
    have hsk:∀e∈es.toList,∃k',e.key=k'.val∧sameKind k k'=true:=by
     intro e he;obtain⟨i,hie⟩:=Bb.1 he;rw[Aw] at hie;obtain⟨k',hk',e'⟩:=hkeys i e hie;exact⟨k',e',Ao.1 hall k' hk'⟩
    have hzr:∃zv,(zeroValue et).run P w=.ok zv w∧Rep G.I w zv z∧z.free=true:=by
     unfold EP at hz
     split at hz
     ·rename_i it hit;obtain⟨zv,hzv,hzp⟩:=AO.1 hz;exact⟨zv,by simp[zeroValue,typeInfo,hit,hzv],EN hzp,Nh hzp⟩
     ·cases hz
    obtain⟨zv,hzrun,hzrep,hzfree⟩:=hzr;have hck:=run_checkKey (P:=P) (w:=w) (empty:=es.isEmpty) hkt hdk k.val;have hget:(getObj rr).run P w=.ok (.map es clock) w:=by simp[getObj,Sem.run,hheap]
    have hund:(underlying kt).run P w=.ok d w:=by simp[underlying,hkt]
    obtain⟨hs1,hs2⟩:=NW k ks vs hlen
    have fin:∀(u:PV) (c:Value) (b:Bool),Rep G.I w c u→u.free=true→r=(if ok then .tuple [u.Ag,.bool b] else u.Ag)→(execOp a.eval o).run P w=.ok (.value (if ok then .tuple #[c,.bool b] else c)) w→
      r.free=true∧∃v,(execOp a.eval o).run P w=.ok (.value v) w∧Bu G.I G.bl w v r∧∀tag,Eb G w tag v r:=by
     intro u c b hr hf e hrun;subst e;cases ok with
     |true=>
      refine⟨rfl,_,hrun,?_,fun _=>trivial⟩
      refine .tuple rfl fun i p hp=>?_
      match i with
      |0=>simp at hp;subst hp;exact .inl (.inl hr.Ag)
      |1=>simp at hp;subst hp;exact .inl (.inl (.bool b))
      |n+2=>simp at hp
     |false=>exact⟨by rw[if_neg (by simp),C9];exact hf,_,hrun,.one (.inl hr.Ag),fun _=>Cj u⟩
    rcases Kv hdd es.toList 0 hsk with⟨j,e,hej,hke,hfn⟩ | ⟨hno,hfn⟩
    ·split at hv
     ·rename_i u hu
      split at hv
      ·rename_i hfu;cases hv;obtain⟨j',hj1,hj2⟩:=hs1 u hu;have hix:=hlt j' k hj1;obtain⟨e',he',hke'⟩:=Ac.1 hix;rw[Aw] at hej;have hjj:=hone _ _ _ _ hej he' (hke.trans hke'.symm);rw[hjj,he'] at hej;cases hej;refine fin u e.val true (hrv j' e u he' hj2) hfu rfl ?_
       simp[execOp,ho,Instr.lookup,ht,underlying,ev,eq,hget,hck,Instr.findKey,hkt,hfn]
      ·cases hv
     ·rename_i hu
      exfalso
      rw[Aw] at hej;obtain⟨k',hk',e'⟩:=hkeys j e hej;have:=UC (e'.symm.trans hke);subst this;exact hs2 hu hk'
    ·split at hv
     ·rename_i u hu
      exfalso
      obtain⟨j',hj1,hj2⟩:=hs1 u hu;have hix:=hlt j' k hj1;obtain⟨e',he',hke'⟩:=Ac.1 hix
      have:e'∈es.toList:=by
       rw[←Aw] at he';exact AA he'
      exact hno e' this hke'
     ·cases hv;refine fin z zv false hzrep hzfree rfl ?_
      simp[execOp,ho,Instr.lookup,ht,underlying,ev,eq,hget,hck,Instr.findKey,hkt,hfn,hzrun]
   ·cases hv
  ·cases hv
 |nilm=>
  have ev:a.eval x=.map none:=(hp rfl).Ra;simp only[Xd] at hv
  split at hv
  ·rename_i k hk;have eq:=Ru hk (hq (Ng hk))
   split at hv
   ·rename_i hint;cases hv
    have hzr:∃zv,(zeroValue et).run P w=.ok zv w∧Rep G.I w zv z∧z.free=true:=by
     unfold EP at hz
     split at hz
     ·rename_i it hit;obtain⟨zv,hzv,hzp⟩:=AO.1 hz;exact⟨zv,by simp[zeroValue,typeInfo,hit,hzv],EN hzp,Nh hzp⟩
     ·cases hz
    obtain⟨zv,hzrun,hzrep,hzfree⟩:=hzr;have hck:=run_checkKey (P:=P) (w:=w) (empty:=true) hkt hdk k.val
    have hrun:(execOp a.eval o).run P w=.ok (.value (if ok then .tuple #[zv,.bool false] else zv)) w:=by
     simp[execOp,ho,Instr.lookup,ht,underlying,ev,eq,hck,Instr.findKey,hkt,Instr.findNow,hzrun]
    cases ok with
    |true=>
     refine⟨rfl,_,hrun,?_,fun _=>trivial⟩
     refine .one (.inl (.tuple rfl fun i p hp=>?_))
     match i with
     |0=>simp at hp;subst hp;exact hzrep.Ag
     |1=>simp at hp;subst hp;exact .bool false
     |n+2=>simp at hp
    |false=>exact⟨by rw[if_neg (by simp),C9];exact hzfree,_,hrun,.one (.inl hzrep.Ag),fun _=>Cj z⟩
   ·cases hv
  ·cases hv
 |_=>simp[Xd] at hv
end
end Go.Abs

namespace Go.Abs
open Go.RowKit
def Gh.Jr(G:Gh)(n:Nat)(J:Option Nat→Prop)(tag:Option Tag):Gh:=
 ⟨fun b x=>G.I b x∨(b=n∧J x),fun b=>if b=n then tag else G.ω b,G.bl⟩
section
variable{P:Program}{pur:FuncId→Bool}{call:Caller}{fi:FI}{cx:Cx}{G:Gh}{a:Act}{w:World}{A A':Frm}{σ σ':Sto}
theorem heap_alloc_old'(w:World)(o:Obj)(i:Nat)(h:i<w.heap.size):(w.alloc o).heap[i]?=w.heap[i]?:=by
 show(w.heap.push o)[i]?=_;rw[El,if_neg (by omega)]
theorem heap_alloc_new'(w:World)(o:Obj):(w.alloc o).heap[w.heap.size]?=some o:=by
 show(w.heap.push o)[w.heap.size]?=_;simp
theorem cell_of_heap{w w':World}{b o:Nat}(h:w'.heap[b]?=w.heap[b]?):w'.cell? ⟨b,o,none⟩=w.cell? ⟨b,o,none⟩:=by
 simp only[World.cell?,h]
theorem N8(w:World)(cs:Array Value)(t:TypeId)(fz:Nat×Nat)(j:Nat):(w.alloc (.cells cs t fz)).cell? ⟨w.heap.size,j,none⟩=cs[j]?:=by
 simp only[World.cell?,heap_alloc_new'];rfl
theorem EG(X:Tag→Prop)(hb:Base cx G w)(o:Obj)(J:Option Nat→Prop)(tag:Option Tag):Ext X G (G.Jr w.heap.size J tag) w (w.alloc o):=by
 refine⟨fun b x h=>.inl h,⟨fun b x h=>cell_of_heap (heap_alloc_old' _ _ _ (hb.lt _ _ h)),fun b h=>heap_alloc_old' _ _ _ (hb.lt _ _ h)⟩,Bl.le_refl _,fun _ _ _ _=>rfl,fun b tg h _=>?_⟩
 have hlt:=(hb.own b tg h).1;have hne:b≠w.heap.size:=by omega
 refine⟨by simp[Gh.Jr,hne,h],heap_alloc_old' _ _ _ hlt,fun x hx=>?_⟩
 rcases hx with hx | ⟨rfl,_⟩
 ·exact hx
 ·exact absurd rfl hne
theorem Ep(hb:Base cx G w)(o:Obj)(J:Option Nat→Prop)(tag:Option Tag):Base cx (G.Jr w.heap.size J tag) (w.alloc o):=by
 have hsz:(w.alloc o).heap.size=w.heap.size+1:=by show(w.heap.push o).size=_;simp
 refine⟨fun b h=>?_,?_,fun b x h=>.inl (hb.sub b x h),fun b x h=>?_,fun b x h=>?_,fun b tg h=>?_,hb.Klt,by rw[hsz];have:=hb.grow;omega,hb.bl,hb.os,hb.tape,hb.output⟩
 ·have:=hb.Klt b h;have:=hb.grow;rw[heap_alloc_old' _ _ _ (by omega)];exact hb.keep b h
 ·refine hb.same.trans (I':=G.I) ⟨fun b x h=>cell_of_heap (heap_alloc_old' _ _ _ (hb.lt _ _ h)),fun b h=>heap_alloc_old' _ _ _ (hb.lt _ _ h)⟩ hb.sub
 ·rcases h with h | ⟨rfl,_⟩
  ·exact hb.new b x h
  ·refine .inr fun hk=>?_
   have:=hb.Klt _ hk;have:=hb.grow;omega
 ·rw[hsz];rcases h with h | ⟨rfl,_⟩
  ·have:=hb.lt b x h;omega
  ·omega
 ·rw[hsz];simp only[Gh.Jr] at h
  split at h
  ·rename_i hbn;subst hbn;refine⟨by omega,fun hk=>?_⟩
   have:=hb.Klt _ hk;have:=hb.grow;omega
  ·have:=hb.own b tg h;exact⟨by omega,this.2⟩
theorem Jj(X:Tag→Prop):Ext X G G w w.drew:=⟨fun _ _ h=>h,⟨fun _ _ _=>rfl,fun _ _=>rfl⟩,Bl.le_refl _,fun _ _ _ _=>rfl,fun _ _ h _=>⟨h,rfl,fun _ h=>h⟩⟩
theorem FY(hb:Base cx G w):Base cx G w.drew:=⟨hb.keep,⟨hb.same.cell,hb.same.blk⟩,hb.sub,hb.new,hb.lt,hb.own,hb.Klt,hb.grow,hb.bl,hb.os,hb.tape,hb.output⟩
theorem Ext.trans{X:Tag→Prop}{G1 G2 G3:Gh}{w1 w2 w3:World}(h:Ext X G1 G2 w1 w2)(k:Ext X G2 G3 w2 w3):Ext X G1 G3 w1 w3:=by
 refine⟨fun b x h'=>k.I _ _ (h.I _ _ h'),h.same.trans k.same h.I,h.bl.trans k.bl,fun id hid hX g=>(k.ab id (Bn hid h.bl.1.length_le) hX g).trans (h.ab id hid hX g),fun b tg ht hX=>?_⟩
 obtain⟨a1,a2,a3⟩:=h.fix b tg ht hX;obtain⟨b1,b2,b3⟩:=k.fix b tg a1 hX;exact⟨b1,b2.trans a2,fun x hx=>a3 x (b3 x hx)⟩
theorem Vt(hi:Inv cx G a w A σ){o:Oper}{k:PK}{az:List Ct}(hdst:∀d,o.dst=some d→d<cx.nt∧(cx.kd d).val=true)
  (hrun:BV pur call { dst:=o.dst,k:=.p k,args:=az } A σ=some (A',σ'))
  (hsem:∀vs rs,BJ A az=some vs→AJ k vs=some rs→∃p v G' w',rs=[some p]∧p.free=true∧(execOp a.eval o).run P w=.ok (.value v) w'∧
   Ext (fun _=>False) G G' w w'∧Base cx G' w'∧G'.bl=G.bl∧Bu G'.I G'.bl w' v p∧∀d,o.dst=some d→Eb G' w' (.slot d none) v p):Gives P cx o a w A' σ':=by
 obtain⟨vs,rs,h1,h2,rfl,h3⟩:=bu hrun;obtain⟨p,v,G',w',rfl,hf,hr,he,hb,hbl,hrep,how⟩:=hsem vs rs h1 h2;rw[h3 p rfl];exact .inl ⟨v,w',hr,G',hi.JK he hb hbl o.dst hdst hf hrep how⟩
theorem tC(hi:Inv cx G a w A σ)(hkd:∀t,cx.kd t=fi.kind t){o:Oper}{t:TypeId}{x:Operand}(ho:o.op=.box t x)
  (hdst:∀d,o.dst=some d→d<cx.nt∧(cx.kd d).val=true)
  {az:List Ct} (hc:Aq fi [x]=some az) (hrun:BV pur call { dst:=o.dst,k:=.p .bx,args:=az } A σ=some (A',σ')):Gives P cx o a w A' σ':=by
 refine Vt hi hdst hrun fun vs rs he hs=>?_
 obtain⟨y,zs,rfl,hy,hz⟩:=AL hc;cases hz;obtain⟨p,qs,rfl,hp,hq⟩:=Au he;cases hq;simp only[AJ] at hs
 split at hs
 ·rename_i hf;cases hs;have hrep:=((Ba hi hkd hy hp (IY hf)).flat hf).Ag;obtain⟨hsz,hcell⟩:=FB hrep
  let J:Option Nat→Prop:=fun x=>∃o,x=some o
  refine⟨_,.pointer (some ⟨w.heap.size,0,none⟩),G.Jr w.heap.size J none,w.alloc (.cells (a.eval x).cells t),rfl,rfl,?_,EG _ hi.base _ _ _,Ep hi.base _ _ _,rfl,?_,fun _ _=>trivial⟩
  ·simp only[execOp,ho,Instr.box,newVar,newRow];rfl
  ·have hext:=EG (fun _=>False) hi.base (.cells (a.eval x).cells t) J none
   refine .one (.inl (.vptr (fun j=>(a.eval x).cells.getD j undef) (fun j q hq=>.inr ⟨rfl,⟨_,rfl⟩⟩) (fun j q hq=>?_) (fun j q hq=>(hcell j q hq).mono hext.I hext.same)))
   rw[Bc,N8];have hlt:j<(a.eval x).cells.size:=by have:=(Ab.1 hq).1;omega
   simp[Array.getD,hlt]
 ·cases hs
theorem Ns(w:World)(cs:Array Value)(t:TypeId):∃fz,(markStringish ⟨w.heap.size,0,none⟩).run P (w.alloc (.cells cs t))=.ok () (w.alloc (.cells cs t fz)):=by
 refine⟨(cs.size,cs.size+1),?_⟩
 have hshape:(w.alloc (.cells cs t)).shape? w.heap.size=some (t,cs.size):=by
  simp only[World.shape?,heap_alloc_new']
 simp only[markStringish,Sem.run_bind,run_shape,hshape,Result.andThen_ok,run_freeze];congr 1;simp only[World.freeze,World.alloc];rw[if_neg (by omega)]
 congr 1;apply Array.ext_getElem?;intro i;rw[Ch,El,El];by_cases h:w.heap.size=i
 ·subst h;simp
 ·have:¬i=w.heap.size:=fun e=>h e.symm
  simp[h,this]
theorem oH(hi:Inv cx G a w A σ)(hkd:∀t,cx.kd t=fi.kind t)(hnt:cx.nt=fi.nt){o:Oper}{s t e:TypeId}{x:Operand}(ho:o.op=.convert s t x)
  (hs':P.underlying s=some .string) (ht:P.underlying t=some (.slice e)) (he':P.underlying e=some (.int .u8))
  {az:List Ct} (hc:Aq fi [x]=some az) (hd:BA fi o.dst=true) (hrun:BV pur call { dst:=o.dst,k:=.p .cvb,args:=az } A σ=some (A',σ')):Gives P cx o a w A' σ':=by
 refine Vt hi (DC hkd hnt hd) hrun fun vs rs he hs=>?_
 obtain⟨y,zs,rfl,hy,hz⟩:=AL hc;cases hz;obtain⟨p,qs,rfl,hp,hq⟩:=Au he;cases hq;cases p with
 |str l=>
  obtain⟨b,ev,rfl⟩:=(Ba hi hkd hy hp rfl).Gz;simp only[AJ] at hs;cases hs
  let cap:=Question.cut (.appendCap b.size 0 e) (w.tape w.drawn (.appendCap b.size 0 e))
  let cs:Array Value:=(b.data.map fun c=>Value.int .u8 c.toNat)++Array.replicate (cap - b.size) (.int .u8 0)
  obtain⟨fz,hm⟩:=Ns (P:=P) w.drew cs e
  let J:Option Nat→Prop:=fun x=>∃o,x=some o
  have hext:=(Jj (G:=G) (w:=w) (fun _=>False)).trans (EG (fun _=>False) (FY hi.base) (.cells cs e fz) J none)
  have hsize:b.size=b.data.size:=rfl;refine⟨_,.slice (some ⟨w.heap.size,0,none⟩) b.size cap,G.Jr w.heap.size J none,w.drew.alloc (.cells cs e fz),rfl,rfl,?_,hext,Ep (FY hi.base) _ _ _,rfl,?_,fun _ _=>trivial⟩
  ·simp only[execOp,ho,convert,underlying,Sem.run_bind,run_program,hs',ht,Result.andThen_ok,Sem.run_pure,ev,he',Conv.stringToBytes,run_choose,Question.forced,newRow,run_newObj];have:(markStringish ⟨w.heap.size,0,none⟩).run P (w.drew.alloc (.cells cs e))=.ok () (w.drew.alloc (.cells cs e fz)):=hm;simp only[Bool.false_eq_true,if_false];show(Result.andThen (Result.andThen ((markStringish ⟨w.heap.size,0,none⟩).run P (w.drew.alloc (.cells cs e))) _) _)=_;rw[this];rfl
  ·refine .one (.inl (.slice (fun i _=>cs.getD i undef) (by rw[Am];exact Lib.size_eq b) ?_ (fun _=>rfl) ?_ ?_ ?_ ?_))
   ·show b.size≤cap;simp only[cap,Question.cut];omega
   ·intro i el hel;rw[Af] at hel;obtain⟨c,_,rfl⟩:=Ac.1 hel;rfl
   ·intro i el j q hel hq;exact .inr ⟨rfl,⟨_,rfl⟩⟩
   all_goals (
    intro i el j q hel hq;rw[Af] at hel;obtain⟨c,hc',rfl⟩:=Ac.1 hel;have hlt:i<b.data.size:=by have:=(Ab.1 hc').1;simpa using this
    have hj:j=0:=by
     cases j with
     |zero=>rfl
     |succ j=>simp[PV.cells] at hq
    subst hj;simp[PV.cells] at hq;subst hq
    have hcs:cs[i]?=some (Value.int .u8 c.toNat):=by
     simp only[cs];rw[Dt (by simpa using hlt),Eu]
     rw[Aw] at hc';rw[hc'];rfl)
   ·have:=N8 w.drew cs e fz i;rw[show(0+i * 1+0)=i from by omega]
    rw[show cs.getD i undef=Value.int .u8 c.toNat from by rw[Ah,hcs];rfl,←hcs]
    exact this
   ·rw[show cs.getD i undef=Value.int .u8 c.toNat from by rw[Ah,hcs];rfl]
    exact .int _ _
 |_=>simp[AJ] at hs
end
end Go.Abs

namespace Go.Abs
open Go.RowKit
section
variable{P:Program}{pur:FuncId→Bool}{call:Caller}{fi:FI}{cx:Cx}{G:Gh}{a:Act}{w:World}{A A':Frm}{σ σ':Sto}
def Pv(vs:List Value):List Value:=vs.flatMap fun v=>v.cells.toList
theorem flat_get{size:Nat}:∀(vs:List Value) (i j:Nat) (v:Value),(∀v∈vs,v.cells.size=size)→vs[i]?=some v→j<size→(Pv vs)[i * size+j]?=v.cells[j]?
 |[],i,j,v,_,h,_=>by simp at h
 |u::vs,i,j,v,hall,h,hj=>by
  have hu:=hall u (BG ..);simp only[Pv,List.flatMap_cons];cases i with
  |zero=>
   simp at h;subst h;rw[Nat.zero_mul,Bc,Ae (by simp;omega),Aw]
  |succ i=>
   rw[Al (by simp[hu];rw[CK];omega)]
   have:=flat_get vs i j v (fun v hv=>hall v (Bw _ hv)) (by simpa using h) hj
   rw[←this];congr 1;simp[hu,CK];omega
theorem R4{size:Nat}:∀(vs:List Value),(∀v∈vs,v.cells.size=size)→(Pv vs).length=vs.length * size
 |[],_=>by simp[Pv]
 |u::vs,h=>by
  have:=R4 vs (fun v hv=>h v (Bw _ hv))
  simp only[Pv,List.flatMap_cons,AV,BI] at this ⊢;rw[this];simp[h u (BG ..),CK];omega
theorem Nj{size:Nat}(f:Operand→Value):∀(parts:List (Nat×Operand)) (k:Nat) (pre rest:List Value) (cells:Array Value),Kt k parts=true→pre.length=k * size→
  cells.toList=pre++rest→rest.length=parts.length * size→(∀x∈parts,(f x.2).cells.size=size)→
  ∃cells',Instr.fill (fun i=>some (i * size,size)) cells (parts.map fun x=>(x.1,f x.2))=some cells'∧cells'.toList=pre++Pv (parts.map fun x=>f x.2)
 |[],k,pre,rest,cells,_,_,hc,hl,_=>by
  have:rest=[]:=Bq.1 (by simpa using hl)
  exact⟨cells,rfl,by rw[hc,this];simp[Pv]⟩
 |(i,x)::parts,k,pre,rest,cells,ho,hp,hc,hl,hall=>by
  simp only[Kt,Ak,beq_iff_eq] at ho;obtain⟨rfl,ho⟩:=ho;have hx:=hall (i,x) (BG ..);dsimp only at hx
  have hsz:cells.size=i * size+(parts.length+1) * size:=by
   have:=congrArg List.length hc;simp only[Array.length_toList,AV,hp,hl,BI] at this;exact this
  rw[CK] at hsz;have hrl:rest.length=parts.length * size+size:=by simpa [CK] using hl
  have hnew:((f x).cells.zipIdx.foldl (fun(cs:Array Value) (x:Value×Nat)=>cs.setIfInBounds (i * size+x.2) x.1) cells).toList=(pre++(f x).cells.toList)++rest.drop size:=by
   rw[R3 _ _ _ (by rw[hx];omega),hc,hx]
   have e1:(pre++rest).take (i * size)=pre:=by rw[←hp];simp
   have e2:(pre++rest).drop (i * size+size)=rest.drop size:=by
    rw[←hp,List.drop_append,Cv (by omega)];simp
   simp only[e1,e2]
  obtain⟨cells',h1,h2⟩:=Nj f parts (i+1) (pre++(f x).cells.toList) (rest.drop size) _ ho (by simp[hp,hx,CK]) hnew (by rw[CX];omega) (fun y hy=>hall y (Bw _ hy))
  refine⟨cells',?_,by rw[h2];simp[Pv]⟩
  simp only[AR,Instr.fill];rw[if_neg (by simp only[hx,Df,decide_eq_true_eq,ne_eq,not_true_eq_false,decide_false,Bool.false_eq_true,false_or];omega)]
  exact h1
theorem oL(hi:Inv cx G a w A σ)(hkd:∀t,cx.kd t=fi.kind t)(hnt:cx.nt=fi.nt){o:Oper}{t e:TypeId}{n:Nat}{ps:Array (Nat×Operand)}(ho:o.op=.buildSlice t n ps)
  (ht:P.underlying t=some (.slice e)) {size:Nat} {ag:Bool} (hsz:Ci P e=some (size,ag)) (hord:Kt 0 ps.toList=true) (hn:ps.size=n) (hn':n≤1000) (hs0:0<size) (hs1:size≤100)
  (hz:(P.info? e).any (·.zero.isSome)=true)
  {az:List Ct} (hc:Aq fi (ps.toList.map (·.2))=some az) (hd:BA fi o.dst=true) (hrun:BV pur call { dst:=o.dst,k:=.p (.bsl size),args:=az } A σ=some (A',σ')):Gives P cx o a w A' σ':=by
 refine Vt hi (DC hkd hnt hd) hrun fun vs rs he hs=>?_
 simp only[AJ] at hs
 split at hs
 case isFalse=>cases hs
 rename_i hall;cases hs;rw[Ao] at hall
 have hall':∀p∈vs,p.cells.length=size∧p.flat=true:=fun p hp=>by
  have:=hall p hp;simp only[Ak,beq_iff_eq] at this;exact this
 obtain⟨hl,hrep⟩:=Oc hi hkd hc he (fun p hp=>IY (hall' p hp).2)
 have hl':ps.size=vs.length:=by simpa using hl
 have hpart:∀(i:Nat) (x:Nat×Operand) (p:PV),ps.toList[i]?=some x→vs[i]?=some p→Rep G.I w (a.eval x.2) p.Ag:=fun i x p hx hp=>
  ((hrep i x.2 p (by rw[Af,hx];rfl) hp).flat (hall' p (AA hp)).2).Ag
 have hsize:∀x∈ps.toList,(a.eval x.2).cells.size=size:=by
  intro x hx;obtain⟨i,hix⟩:=Bb.1 hx;have hlt:i<vs.length:=by have:=(Ab.1 hix).1;simp at this;omega
  have hp:=Ad hlt;have:=(FB (hpart i x _ hix hp)).1;rw[this,CP];exact(hall' _ (AQ hlt)).1
 obtain⟨it,hit,hzs⟩:∃it,P.info? e=some it∧it.zero.isSome=true:=by
  cases h:P.info? e with
  |none=>rw[h] at hz;simp at hz
  |some it=>rw[h] at hz;exact⟨it,rfl,by simpa using hz⟩
 obtain⟨zv,hzv⟩:=CW.1 hzs
 let zero:Array Value:=if n * size=0 then #[] else zv.cells
 let cells0:Array Value:=(Array.range (n * size)).map (zero[· % zero.size]!)
 obtain⟨cells,hfill,hcells⟩:=Nj a.eval ps.toList 0 [] cells0.toList cells0 hord (by simp) (by simp) (by simp[cells0,hn]) hsize
 simp only[BK] at hcells
 let J:Option Nat→Prop:=fun x=>∃o,x=some o∧o<n * size
 let tag:Option Tag:=o.dst.map fun d=>.slot d none
 have hext:=EG (fun _=>False) hi.base (.cells cells e) J tag
 have hlenc:cells.size=n * size:=by
  have:=congrArg List.length hcells;rw[R4 _ (by intro v hv;obtain⟨x,hx,rfl⟩:=Ce.1 hv;exact hsize x hx)] at this
  simpa [hn] using this
 refine⟨_,.slice (some ⟨w.heap.size,0,none⟩) n n,G.Jr w.heap.size J tag,w.alloc (.cells cells e),rfl,rfl,?_,hext,Ep hi.base _ _ _,rfl,?_,?_⟩
 ·have h24:¬(n * size>2 ^ 24):=by
   have:n * size≤1000 * 100:=Nat.mul_le_mul hn' hs1;omega
  have hf':Instr.fill (fun i=>some (i * size,size)) cells0 (ps.map fun x=>(x.1,a.eval x.2)).toList=some cells:=by
   rw[Array.toList_map];exact hfill
  simp only[cells0] at hf';have hzr:(zeroValue e).run P w=.ok zv w:=by simp[zeroValue,typeInfo,hit,hzv]
  by_cases h0:n * size=0
  ·have hz0:zero=#[]:=by simp[zero,h0]
   rw[hz0] at hf';simp only[execOp,ho,Instr.buildSlice,Sem.run_bind,underlying,run_program,ht,Result.andThen_ok,Sem.run_pure,run_sizeOf hsz,if_neg h24,if_pos h0,newRow,run_newObj];rw[hf'];rfl
  ·have hz0:zero=zv.cells:=by simp only[zero,if_neg h0]
   rw[hz0] at hf';simp only[execOp,ho,Instr.buildSlice,Sem.run_bind,underlying,run_program,ht,Result.andThen_ok,Sem.run_pure,run_sizeOf hsz,if_neg h24,if_neg h0,hzr,newRow,run_newObj];rw[hf'];rfl
 ·have hlen:n=(vs.map PV.Ag).length:=by simp;omega
  have key:∀(i:Nat) (el:PV) (j:Nat) (q:PV),(vs.map PV.Ag)[i]?=some el→el.cells[j]?=some q→∃v,Rep G.I w v el∧j<size∧i<n∧v.cells.size=size∧cells[i * size+j]?=v.cells[j]?:=by
   intro i el j q hel hq;rw[Af] at hel;obtain⟨p,hp,rfl⟩:=Ac.1 hel;have hlt:i<ps.size:=by have:=(Ab.1 hp).1;omega
   have hx:ps.toList[i]?=some ps[i]:=by rw[Aw];exact Az hlt
   have hr:=hpart i _ p hx hp
   have hjl:j<size:=by
    have:=(Ab.1 hq).1;rw[CP,(hall' p (AA hp)).1] at this;exact this
   refine⟨_,hr,hjl,by omega,hsize _ (AA hx),?_⟩
   rw[←Aw,hcells];exact flat_get _ i j _ (by intro v hv;obtain⟨x,hx,rfl⟩:=Ce.1 hv;exact hsize x hx) (by rw[Af,hx];rfl) hjl
  refine .one (.inl (.slice (fun i j=>cells.getD (i * size+j) undef) hlen (Be _) (fun _=>rfl) ?_ ?_ ?_ ?_))
  ·intro i el hel;rw[Af] at hel;obtain⟨p,hp,rfl⟩:=Ac.1 hel;rw[CP];exact(hall' p (AA hp)).1
  ·intro i el j q hel hq;obtain⟨v,_,hj,hin,_,_⟩:=key i el j q hel hq;refine .inr ⟨rfl,_,rfl,?_⟩
   have:(i+1) * size≤n * size:=Bv _ (by omega)
   rw[CK] at this;show 0+i * size+j<n * size;omega
  ·intro i el j q hel hq;obtain⟨v,hr,hj,hin,hvs,hce⟩:=key i el j q hel hq;show(w.alloc (.cells cells e)).cell? ⟨w.heap.size,0+i * size+j,none⟩=_;rw[Bc,N8,hce,Ah,hce];rw[Az (by omega)];rfl
  ·intro i el j q hel hq;obtain⟨v,hr,hj,hin,hvs,hce⟩:=key i el j q hel hq;rw[Ah,hce];have:=(FB hr).2 j q hq;rw[Ah] at this;exact this.mono hext.I hext.same
 ·intro d hd';have hlen:n=(vs.map PV.Ag).length:=by simp;omega
  show mU _ _ _ _ _ _;refine⟨w.heap.size,0,n,cells,e,by rw[←hlen],by simp[Gh.Jr,tag,hd'],?_,?_,heap_alloc_new' _ _,by rw[hlenc];omega,hs0,by omega⟩
  ·rintro(h | ⟨_,o,h,_⟩)
   ·have:=hi.base.lt _ _ h;omega
   ·cases h
  ·intro o' ho' h;rcases h with h | ⟨_,o'',h,hlt⟩
   ·have:=hi.base.lt _ _ h;omega
   ·cases h;rw[←hlen] at ho';omega
end
end Go.Abs

namespace Go.Abs
open Go.RowKit
def Gh.retag(G:Gh)(b:Nat)(tag:Tag):Gh:=⟨G.I,fun b'=>if b'=b then some tag else G.ω b',G.bl⟩
section
variable{P:Program}{pur:FuncId→Bool}{call:Caller}{fi:FI}{cx:Cx}{G:Gh}{a:Act}{w:World}{A A':Frm}{σ σ':Sto}
theorem SN(hb:Base cx G w){b:Nat}{t0 tag:Tag}(h:G.ω b=some t0):Base cx (G.retag b tag) w:=by
 refine⟨hb.keep,hb.same,hb.sub,hb.new,hb.lt,fun b' tg h'=>?_,hb.Klt,hb.grow,hb.bl,hb.os,hb.tape,hb.output⟩
 simp only[Gh.retag] at h'
 split at h'
 ·rename_i e;subst e;exact hb.own _ _ h
 ·exact hb.own _ _ h'
theorem Uh{X:Tag→Prop}{b:Nat}{t0 tag:Tag}(h:G.ω b=some t0)(hX:X t0):Ext X G (G.retag b tag) w w:=by
 refine⟨fun _ _ h=>h,Same.refl _ _,Bl.le_refl _,fun _ _ _ _=>rfl,fun b' tg h' hn=>⟨?_,rfl,fun _ h=>h⟩⟩
 have:b'≠b:=by
  intro e;subst e;rw[h] at h';cases h';exact hn hX
 simp[Gh.retag,this,h']
theorem iE{d s:Nat}{k:PK}{az:List Ct}(h:BV pur call { dst:=some d,k:=.p k,args:=az,ex:=[s] } A σ=some (A',σ')):
  ∃vs rs,BJ A az=some vs∧AJ k vs=some rs∧σ'=σ∧∀p q,rs=[p,q]→A'=(A.set d p).set s q:=by
 unfold BV at h;dsimp only at h
 split at h
 ·rename_i vs hvs;simp only[sem] at h
  split at h
  ·rename_i rs σ₁ hs;obtain⟨rs',hrs,e⟩:=Ac.1 hs;cases e;refine⟨vs,rs,hvs,hrs,?_,?_⟩
   ·split at h
    ·cases h;rfl
    ·split at h<;>cases h;rfl
   ·rintro p q rfl
    simp[AOp.wr,CV] at h;rw[←h.1]
  ·cases h
 ·cases h
theorem Inv.iK{G':Gh}{w':World}(hi:Inv cx G a w A σ){d s:Nat}(hd:d<cx.nt∧(cx.kd d).val=true)(hs:s<cx.nt∧(cx.kd s).val=true)
  (he:Ext (fun tg=>tg=.slot s none∨tg=.slot d none) G G' w w') (hb:Base cx G' w') (hbl:G'.bl=G.bl) {v:Value} {p q:PV} (hfp:p.free=true) (hfq:q.free=true)
  (hp:Bu G'.I G'.bl w' v p) (ho:d≠s→Eb G' w' (.slot d none) v p) (hq:Bu G'.I G'.bl w' (at' (a.put (some d) v) s) q) (hoq:∀tag c,Eb G' w' tag c q) :
  Inv cx G' (a.put (some d) v) w' ((A.set d (some p)).set s (some q)) σ:=by
 have hval:∀m,(cx.kd m).val=false→m≠d∧m≠s:=fun m hm=>by
  refine⟨fun e=>?_,fun e=>?_⟩
  ·rw[e,hd.2] at hm;cases hm
  ·rw[e,hs.2] at hm;cases hm
 refine hi.step _ (some d) v he hb (by simp) ?_ ?_ (by rw[hbl];exact hi.len) (by rw[hbl];exact hi.abl)
 ·intro t r hr;rw[C8] at hr
  split at hr
  ·rename_i hc;cases hr;rw[hc.1,BL hs.2 hfq];exact .inr ⟨hq,hoq _ _⟩
  ·rename_i hc1;have hts:t≠s:=fun e=>hc1 ⟨e,by simp;have:=hi.room;omega⟩
   rw[C8] at hr
   split at hr
   ·rename_i hc;cases hr;rw[hc.1,BL hd.2 hfp,EL _ _ _ (by rw[hi.size];exact hd.1)]
    exact .inr ⟨hp,ho (by rw[←hc.1];exact hts)⟩
   ·rename_i hc2;have htd:t≠d:=fun e=>hc2 ⟨e,by have:=hi.room;omega⟩
    refine .inl ⟨hr,fun e=>htd (Option.some.inj e).symm,fun j h=>?_,fun d' off e hbx=>?_,fun m hm=>?_⟩
    ·rcases h with h | h<;>cases h
     ·exact hts rfl
     ·exact htd rfl
    ·have:=hval d' (by rw[hbx];rfl)
     exact fun e'=>this.1 (Option.some.inj e').symm
    ·obtain⟨keys,hk⟩:=cx.ents t m hm;have:=hval m (by rw[hk];rfl)
     refine⟨fun e'=>this.1 (Option.some.inj e').symm,?_⟩
     rintro(h | h)<;>cases h
     ·exact this.2 rfl
     ·exact this.1 rfl
 ·intro id cs hc;exact .inl ⟨hc,fun j h=>by rcases h with h | h<;>cases h⟩
theorem En(hkd:∀t,cx.kd t=fi.kind t)(hnt:cx.nt=fi.nt){t:Nat}(h:CJ fi t=true):t<cx.nt∧(cx.kd t).val=true:=
 DC hkd hnt (d:=some t) h t rfl
theorem Lc(hi:Inv cx G a w A σ){t:Nat}(hk:(cx.kd t).val=true){p:PV}(he:BJ A [.slot t]=some [p])(hf:p.free=true):
  Bu G.I G.bl w (at' a t) p∧Eb G w (.slot t none) (at' a t) p:=by
 simp only[BJ] at he
 split at he
 ·rename_i v vs hg hv;cases hv;cases he;exact(BL hk hf).1 (hi.slot t _ hg)
 ·cases he
theorem WT(hb:Base cx G w){s d:Nat}{v:Value}{p:PV}(ho:Eb G w (.slot s none) v p):
  ∃G',G'.I=G.I∧G'.bl=G.bl∧Ext (fun tg=>tg=.slot s none∨tg=.slot d none) G G' w w∧Base cx G' w∧Eb G' w (.slot d none) v p:=by
 by_cases h:∃sz es,p=.slice true sz es
 ·obtain⟨sz,es,rfl⟩:=h;obtain⟨b,off,cap,cs,elem,rfl,h1,h2,h3,h4,h5,h6,h7⟩:=ho;refine⟨G.retag b (.slot d none),rfl,rfl,Uh h1 (.inl rfl),SN hb h1,?_⟩
  exact⟨b,off,cap,cs,elem,rfl,by simp[Gh.retag],h2,h3,h4,h5,h6,h7⟩
 ·exact⟨G,rfl,rfl,Ext.refl _ _ _,hb,Lm (fun sz es e=>h ⟨sz,es,e⟩)⟩
theorem Zz(hi:Inv cx G a w A σ)(hkd:∀t,cx.kd t=fi.kind t)(hnt:cx.nt=fi.nt){o:Oper}{s d:Nat}(ho:o.op=.move (.tmp s)∨o.op=.assign (.tmp s))(hod:o.dst=some d)
  {az:List Ct} (hc:Aq fi [.tmp s]=some az) (hd:CJ fi d=true) (hs:CJ fi s=true)
  (hrun:BV pur call { dst:=some d,k:=.p .mvo,args:=az,ex:=[s] } A σ=some (A',σ')):Gives P cx o a w A' σ':=by
 obtain⟨vs,rs,he,hsem,rfl,hA⟩:=iE hrun;obtain⟨y,zs,rfl,hy,hz⟩:=AL hc;cases hz;obtain⟨p,qs,rfl,hp,hq⟩:=Au he;cases hq;simp only[AJ] at hsem
 split at hsem
 ·rename_i hf;cases hsem;rw[hA _ _ rfl];have hsv:=En hkd hnt hs;have hdv:=En hkd hnt hd
  have hyy:y=.slot s:=by
   simp only[EK] at hy
   split at hy<;>first | (split at hy<;>first | (cases hy;rfl) | cases hy) | cases hy
  subst hyy;obtain⟨hrep,how⟩:=Lc hi hsv.2 hp hf;obtain⟨G',e1,e2,hext,hbase,how'⟩:=WT (d:=d) hi.base how
  have hat:at' (a.put (some d) (at' a s)) s=at' a s:=by
   by_cases h:d=s
   ·subst h;exact EL _ _ _ (by rw[hi.size];exact hdv.1)
   ·exact FO _ _ _ _ (fun e=>h (Option.some.inj e))
  refine .inl ⟨at' a s,w,?_,G',?_⟩
  ·rcases ho with ho | ho<;>simp only[execOp,ho]<;>rfl
  ·rw[hod];exact hi.iK hdv hsv hext hbase e2 hf (by rw[C9];exact hf) (by rw[e1,e2];exact hrep) (fun _=>how') (by rw[hat,e1,e2];exact hrep.Ag) (fun _ _=>Cj p)
 ·cases hsem
end
end Go.Abs

namespace Go.Abs
open Go.RowKit
section
variable{P:Program}{pur:FuncId→Bool}{call:Caller}{fi:FI}{cx:Cx}{G:Gh}{a:Act}{w:World}{A A':Frm}{σ σ':Sto}
theorem Qj{I:Imm}{c:Value}{p:PV}(h:Rep I w c p)(hp:p.one=true):c.oneCell'=true:=by
 cases h<;>first | rfl | simp[PV.one] at hp
def Hd(I:Imm)(w:World)(size:Nat)(cs:List Value)(es:List PV):Prop:=
 cs.length=es.length * size∧(∀(i:Nat) (e:PV),es[i]?=some e→e.cells.length=size)∧
 ∀(i:Nat) (e:PV) (j:Nat) (p:PV),es[i]?=some e→e.cells[j]?=some p→∃c,cs[i * size+j]?=some c∧Rep I w c p
theorem Hd.mono{I I':Imm}{w w':World}{size:Nat}{cs:List Value}{es:List PV}(h:Hd I w size cs es)(hI:∀b x,I b x→I' b x)(hs:Same I w w'):Hd I' w' size cs es:=
 ⟨h.1,h.2.1,fun i e j p he hp=>let ⟨c,h1,h2⟩:=h.2.2 i e j p he hp;⟨c,h1,h2.mono hI hs⟩⟩
theorem Hd.nil(I:Imm)(w:World)(size:Nat):Hd I w size [] []:=⟨by simp,fun i e h=>by simp at h,fun i e j p h=>by simp at h⟩
theorem Hd.append{I:Imm}{size:Nat}{cs ds:List Value}{es fs:List PV}(h:Hd I w size cs es)(k:Hd I w size ds fs):Hd I w size (cs++ds) (es++fs):=by
 refine⟨by simp[h.1,k.1,BS],fun i e he=>?_,fun i e j p he hp=>?_⟩
 ·by_cases hi:i<es.length
  ·rw[Ae hi] at he;exact h.2.1 i e he
  ·rw[Al (by omega)] at he;exact k.2.1 _ e he
 ·by_cases hi:i<es.length
  ·rw[Ae hi] at he;obtain⟨c,h1,h2⟩:=h.2.2 i e j p he hp;refine⟨c,?_,h2⟩
   rw[Ae (Ab.1 h1).1];exact h1
  ·rw[Al (by omega)] at he
   obtain⟨c,h1,h2⟩:=k.2.2 _ e j p he hp;refine⟨c,?_,h2⟩
   have hge:es.length * size≤i * size:=Bv _ (by omega)
   rw[Al (by rw[h.1];omega),h.1]
   rw[Nat.sub_mul] at h1;rw[show i * size+j - es.length * size=i * size - es.length * size+j from by omega]
   exact h1
theorem Ki{I:Imm}{ad:Addr}{size:Nat}{es:List PV}{cv:Nat→Nat→Value}(hs0:0<size)(hspot:es≠[]→ad.spot=none)
  (hsz:∀(i:Nat) (e:PV),es[i]?=some e→e.cells.length=size)
  (hc:∀(i:Nat) (e:PV) (j:Nat) (p:PV),es[i]?=some e→e.cells[j]?=some p→w.cell? ⟨ad.block,ad.off+i * size+j,none⟩=some (cv i j))
  (hr:∀(i:Nat) (e:PV) (j:Nat) (p:PV),es[i]?=some e→e.cells[j]?=some p→Rep I w (cv i j) p) :
  ∃cs:List Value,Hd I w size cs es∧(∀(j:Nat) (v:Value),cs[j]?=some v→w.cell? (ad.add j)=some v)∧∀(i:Nat) (j:Nat),i<es.length→j<size→cs[i * size+j]?=some (cv i j):=by
 have hget:∀k,k<es.length * size→((List.range (es.length * size)).map fun k=>cv (k / size) (k % size))[k]?=some (cv (k / size) (k % size)):=by
  intro k hk;rw[Af,Ck hk];rfl
 have hlt:∀i j,i<es.length→j<size→i * size+j<es.length * size:=by
  intro i j hi hj;have:(i+1) * size≤es.length * size:=Bv _ (by omega)
  rw[CK] at this;omega
 have hdm:∀i j,j<size→(i * size+j) / size=i∧(i * size+j) % size=j:=by
  intro i j hj;constructor
  ·rw[Nat.mul_comm,Nat.mul_add_div hs0,Nat.div_eq_of_lt hj];omega
  ·rw[Nat.mul_comm,Nat.mul_add_mod,ES hj]
 refine⟨(List.range (es.length * size)).map fun k=>cv (k / size) (k % size),⟨by simp,hsz,fun i e j p he hp=>?_⟩,fun k v hk=>?_,fun i j hi hj=>?_⟩
 ·have hi:=(Ab.1 he).1;have hj:j<size:=by have:=(Ab.1 hp).1;rw[hsz i e he] at this;exact this
  refine⟨cv i j,?_,hr i e j p he hp⟩
  rw[hget _ (hlt i j hi hj),(hdm i j hj).1,(hdm i j hj).2]
 ·have hkl:k<es.length * size:=by have:=(Ab.1 hk).1;simpa using this
  rw[hget k hkl] at hk;cases hk;have hi:k / size<es.length:=(Ey hs0).2 hkl;have hj:k % size<size:=Nat.mod_lt _ hs0;have hne:es≠[]:=by intro h;subst h;simp at hi
  have he:=Ad hi;have hcl:k % size<(es[k / size]).cells.length:=by rw[hsz _ _ he];exact hj
  have hp:=Ad hcl;have:=hc _ _ _ _ he hp;have e1:k / size * size+k % size=k:=by rw[Nat.mul_comm];exact Nat.div_add_mod k size
  rw[show ad.off+k / size * size+k % size=ad.off+k from by omega] at this
  have had:ad.add k=⟨ad.block,ad.off+k,none⟩:=by
   have hsp:=hspot hne;cases ad;dsimp only at hsp;subst hsp;exact Fh ..
  rw[had];exact this
 ·rw[hget _ (hlt i j hi hj),(hdm i j hj).1,(hdm i j hj).2]
theorem UG{size:Nat}(hs0:0<size){xT:TypeId}(hxT:(∃e',P.underlying xT=some (.slice e'))∨P.underlying xT=some .string){v:Value}{x:PV}{bl:Bl}(hr:Bu G.I bl w v x){xs:List PV}(hx:Tc size x=some xs)
  (hones:xs.all PV.ones=true):∃news,Src P size xT v xs.length news w∧Hd G.I w size news xs:=by
 rw[Ao] at hones;cases x with
 |slice own sz es=>
  simp only[Tc] at hx
  split at hx
  ·rename_i hsz';subst hsz';cases hx;obtain⟨ad,len,cap,cv,rfl,rfl,e2,e3,e4,e5,e6,e7⟩:=hr.Gl;obtain⟨cs,hrow,hcell,hcv⟩:=Ki (I:=G.I) hs0 e3 e4 e6 e7;refine⟨cs,⟨hxT,fun _=>rfl,run_firstCells_some w sz _ ad _ _ cs hrow.1 hcell,run_firstCells_some w.drew sz _ ad _ _ cs hrow.1 hcell,hrow.1,fun u hu=>?_⟩,hrow⟩
   obtain⟨k,hk⟩:=Bb.1 hu;have hkl:k<xs.length * sz:=by have:=(Ab.1 hk).1;rw[hrow.1] at this;exact this
   have hi:k / sz<xs.length:=(Ey hs0).2 hkl;have hj:k % sz<sz:=Nat.mod_lt _ hs0;have he:=Ad hi;have hcl:k % sz<(xs[k / sz]).cells.length:=by rw[e4 _ _ he];exact hj
   have hp:=Ad hcl;have hrep:=e7 _ _ _ _ he hp;have:=hcv (k / sz) (k % sz) hi hj;rw[show k / sz * sz+k % sz=k from by rw[Nat.mul_comm];exact Nat.div_add_mod k sz,hk] at this
   cases this;refine Qj hrep ?_
   exact Ao.1 (hones _ (AQ hi)) _ (AQ hcl)
  ·cases hx
 |nils=>
  simp only[Tc] at hx;cases hx;have:=hr.FR;subst this;refine⟨[],⟨hxT,fun _=>rfl,run_firstCells_none w size 0 0 0,run_firstCells_none w.drew size 0 0 0,by simp,fun _ h=>by cases h⟩,Hd.nil ..⟩
 |empt=>
  simp only[Tc] at hx;cases hx;obtain⟨ad,rfl⟩:=hr.Iq;exact⟨[],⟨hxT,fun _=>rfl,run_firstCells_some w size 0 ad 0 0 [] (by simp) (fun j u h=>by simp at h),run_firstCells_some w.drew size 0 ad 0 0 [] (by simp) (fun j u h=>by simp at h),by simp,fun _ h=>by cases h⟩,Hd.nil ..⟩
 |str l=>
  simp only[Tc] at hx
  split at hx
  ·rename_i h1;subst h1;cases hx;obtain⟨s,rfl,rfl⟩:=hr.Gz
   refine⟨byteCells s,⟨hxT,fun _=>by rw[Am,←Lib.size_eq];rfl,by rw[Am,←Lib.size_eq];exact firstCells_string s w,by rw[Am,←Lib.size_eq];exact firstCells_string s w.drew,
    by rw[byteCells_length,Dv,Am];exact Lib.size_eq s,fun u hu=>by obtain⟨_,_,rfl⟩:=Ce.1 hu;rfl⟩,?_⟩
   refine⟨by rw[byteCells_length,Dv,Am];exact Lib.size_eq s,fun i e he=>?_,fun i e j p he hp=>?_⟩
   ·rw[Af] at he;obtain⟨b,_,rfl⟩:=Ac.1 he;rfl
   ·rw[Af] at he;obtain⟨b,hb,rfl⟩:=Ac.1 he;cases j with
    |zero=>
     simp[PV.cells] at hp;subst hp;exact⟨.int .u8 b.toNat,by rw[byteCells,Dv,Nat.add_zero,Af,hb];rfl,.int _ _⟩
    |succ j=>simp[PV.cells] at hp
  ·cases hx
 |_=>simp[Tc] at hx
end
end Go.Abs

namespace Go.Abs
open Go.RowKit
section
variable{P:Program}{pur:FuncId→Bool}{call:Caller}{fi:FI}{cx:Cx}{G:Gh}{a:Act}{w:World}{A A':Frm}{σ σ':Sto}
theorem GI(b:Nat)(t:TypeId)(fr:Nat×Nat):∀(vs:List Value) (o:Nat) (w:World) (cur:Array Value),w.heap[b]?=some (.cells cur t fr)→
  ∃cur':Array Value,cur'.size=cur.size∧(w.setCells b o vs).heap[b]?=some (.cells cur' t fr)
 |[],_,_,cur,h=>⟨cur,rfl,h⟩
 |v::r,o,w,cur,h=>by
  have h1:(w.setCell ⟨b,o,none⟩ v).heap[b]?=some (.cells (cur.setIfInBounds o v) t fr):=by
   simp only[World.setCell,Ch,if_true,h];rfl
  obtain⟨cur',e,h2⟩:=GI b t fr r (o+1) _ _ h1;exact⟨cur',by simpa using e,h2⟩
theorem Ea(b:Nat):∀(vs:List Value) (o:Nat) (w:World) (k:Nat),k≠b→(w.setCells b o vs).heap[k]?=w.heap[k]?
 |[],_,_,_,_=>rfl
 |v::r,o,w,k,h=>by
  rw[World.setCells,Ea b r _ _ k h];simp only[World.setCell,Ch];rw[if_neg (fun e=>h e.symm)]
theorem size_setCells(b:Nat):∀(vs:List Value) (o:Nat) (w:World),(w.setCells b o vs).heap.size=w.heap.size
 |[],_,_=>rfl
 |v::r,o,w=>by rw[World.setCells,size_setCells b r];simp[World.setCell]
theorem JG(b:Nat):∀(vs:List Value) (o:Nat) (w:World),(w.setCells b o vs).tape=w.tape
 |[],_,_=>rfl
 |v::r,o,w=>by rw[World.setCells,JG b r];rfl
theorem Kl{I:Imm}{w':World}{b off size n cap:Nat}{own:Bool}{cs:List Value}{es:List PV}(hn:n=es.length)(hcap:n≤cap)(hrow:Hd I w' size cs es)
  (hI:∀k,k<cs.length→I b (some (off+k))) (hc:∀k (v:Value),cs[k]?=some v→w'.cell? ⟨b,off+k,none⟩=some v):Rep I w' (.slice (some ⟨b,off,none⟩) n cap) (.slice own size es):=by
 refine .slice (fun i j=>cs.getD (i * size+j) undef) hn hcap (fun _=>rfl) hrow.2.1 (fun i e j p he hp=>?_) (fun i e j p he hp=>?_) (fun i e j p he hp=>?_)
 all_goals obtain⟨c,h1,h2⟩:=hrow.2.2 i e j p he hp
 ·have:=hI _ (Ab.1 h1).1;rw[←CU] at this;exact this
 ·have:=hc _ _ h1;rw[←CU] at this;rw[Aj,h1];exact this
 ·rw[Aj,h1];exact h2
theorem Jf{need old bytes:Nat}(h:old<need)(hn:need≤Cb)(hb:bytes≤4096):Builtin.nextslicecap need old * bytes≤281474976710656:=by
 have h1:=nextslicecap_le h;unfold Cb at hn;have:Builtin.nextslicecap need old * bytes≤(2 * 4294967296) * 4096:=Nat.mul_le_mul (by omega) hb
 omega
theorem grownCap_ge(w:World)(need old:Nat)(e:TypeId):need≤grownCap w need old e:=by
 simp only[grownCap,Question.cut];omega
theorem ZF(hi:Inv cx G a w A σ)(hkd:∀t,cx.kd t=fi.kind t)(hnt:cx.nt=fi.nt){o:Oper}{c:Call}(ho:o.op=.call c)(hb:c.callee=.builtin .append)
  {sT xT e:TypeId} {u d:Nat} {y:Operand} (hargs:c.args=#[.tmp u,y]) (htys:c.argTypes=#[sT,xT]) (hod:o.dst=some d)
  (hsT:P.underlying sT=some (.slice e)) (hxT:(∃e',P.underlying xT=some (.slice e'))∨P.underlying xT=some .string) {it:TypeInfo} (hit:P.info? e=some it)
  (hs0:0<it.size) (hby:it.bytes≤4096) (hz:(it.zero.map (·.cells.size))=some it.size)
  {az:List Ct} (hc:Aq fi [.tmp u,y]=some az) (hd:CJ fi d=true) (hu:CJ fi u=true) (hne:d≠u)
  (hrun:BV pur call { dst:=some d,k:=.p (.app it.size),args:=az,ex:=[u] } A σ=some (A',σ')):Gives P cx o a w A' σ':=by
 obtain⟨vs,rs,he,hsem,rfl,hA⟩:=iE hrun;obtain⟨y1,zs,rfl,hy1,hz1⟩:=AL hc;obtain⟨y2,zs,rfl,hy2,hz2⟩:=AL hz1;cases hz2;obtain⟨s,qs,rfl,hs,hq⟩:=Au he;obtain⟨x,qs,rfl,hx,hq⟩:=Au hq;cases hq;have huv:=En hkd hnt hu;have hdv:=En hkd hnt hd
 have hyy:y1=.slot u:=by
  simp only[EK] at hy1
  split at hy1<;>first | (split at hy1<;>first | (cases hy1;rfl) | cases hy1) | cases hy1
 subst hyy;obtain⟨z,hz',hzs⟩:=Ac.1 hz;simp only[AJ,dS] at hsem
 split at hsem
 case h_2=>cases hsem
 rename_i es xs hes hxs;have hsfree:s.free=true:=by cases s<;>first | rfl | simp[Td] at hes
 have hxfree:x.free=true:=by cases x<;>first | rfl | simp[Tc] at hxs
 obtain⟨hsrep,hsown⟩:=Lc hi huv.2 hs hsfree;have hxrep:=Ba hi hkd hy2 hx hxfree;obtain⟨consts,hrun'⟩:=Fb (P:=P) (w:=w) (a:=a) ho hb;rw[hargs,htys] at hrun';have hat:∀v,d≠u→at' (a.put (some d) v) u=at' a u:=fun v h=>FO _ _ _ _ (fun e=>h (Option.some.inj e))
 have hev:(#[Operand.tmp u,y].map a.eval)=#[at' a u,a.eval y]:=by simp[Act.eval,at']
 rw[hev] at hrun'
 have hfin:∀{v:Value} {w':World},(Builtin.append_ #[sT,xT] o.type #[at' a u,a.eval y]).run P w=.ok v w'→(execOp a.eval o).run P w=.ok (.value v) w':=by
  intro v w' h;rw[hrun'];simp only[builtin,Sem.run_bind,h,Result.andThen_ok,Sem.run_pure]
 split at hsem
 ·
  rename_i hemp;have hxe:xs=[]:=D9.1 hemp;subst hxe;cases hsem;rw[hA _ _ rfl];obtain⟨news,hsrc,hrow⟩:=UG (P:=P) (G:=G) hs0 hxT hxrep hxs (by rfl)
  have hn0:news=[]:=Bq.1 (by rw[hsrc.newsLen];simp)
  subst hn0
  have hrun0:(Builtin.append_ #[sT,xT] o.type #[at' a u,a.eval y]).run P w=.ok (at' a u) w:=by
   cases s with
   |slice own sz es'=>
    cases own with
    |false=>simp[Td] at hes
    |true=>
     obtain⟨b,off,cap,cs,elem,ev,_,_,_,_,_,_,hle⟩:=hsown;rw[ev];exact run_append_room_src w sT xT o.type e it hsT hit b off _ cap _ _ [] hsrc (by simpa using hle) (by simp) (by simp)
   |nils=>
    have ev:=hsrep.FR;rw[ev];have hc0:=hsrc.cells;have hl0:=hsrc.len w;simp only[De] at hc0 hl0;rcases hxT with⟨e',hk⟩ | hk<;>simp[Builtin.append_,run_underlying hsT,run_underlying hk,sizeOf,typeInfo,hit,hl0,hc0]
   |_=>simp[Td] at hes
  obtain⟨G',e1,e2,hext,hbase,how'⟩:=WT (d:=d) hi.base hsown
  have hatu:at' (a.put (some d) (at' a u)) u=at' a u:=by
   by_cases h:d=u
   ·subst h;exact EL _ _ _ (by rw[hi.size];exact hdv.1)
   ·exact hat _ h
  refine .inl ⟨at' a u,w,hfin hrun0,G',?_⟩
  rw[hod];exact hi.iK hdv huv hext hbase e2 hsfree (by rw[C9];exact hsfree) (by rw[e1,e2];exact hsrep) (fun _=>how') (by rw[hatu,e1,e2];exact hsrep.Ag) (fun _ _=>Cj s)
 ·rename_i hemp
  split at hsem
  case isFalse=>cases hsem
  rename_i hcond;obtain⟨hmax,hones⟩:=hcond;cases hsem;rw[hA _ _ rfl];obtain⟨news,hsrc,hrow⟩:=UG (P:=P) (G:=G) hs0 hxT hxrep hxs hones
  have hxlen:0<xs.length:=by
   cases xs with
   |nil=>simp at hemp
   |cons _ _=>simp
  have grow:∀(base:Option Addr) (sCap:Nat) (olds:List Value),at' a u=.slice base es.length sCap→sCap<es.length+xs.length→Hd G.I w it.size olds es→
    (Builtin.firstCells it.size es.length (.slice base es.length sCap)).run P w.drew=.ok olds.toArray w.drew→
    Gives P cx o a w ((A.set d (some (.slice true it.size (es++xs)))).set u (some s.Ag)) σ':=by
   intro base sCap olds ev hlt holds hfc;have hr:=run_append_grow_src w sT xT o.type e it z hsT hit hz' base es.length sCap olds hfc (a.eval y) xs.length news hsrc hlt (by unfold Cb at hmax;omega) (Jf hlt hmax hby)
   rw[←ev] at hr
   let J:Option Nat→Prop:=fun x=>∃o,x=some o∧o<(es.length+xs.length) * it.size
   let cells:Array Value:=(olds++news).toArray++Builtin.zeroCells z.cells (grownCap w (es.length+xs.length) sCap e - (es.length+xs.length))
   have hext0:=(Jj (G:=G) (w:=w) (fun tg=>tg=.slot u none∨tg=.slot d none)).trans (EG _ (FY hi.base) (.cells cells e) J (some (.slot d none)))
   have hbase0:=Ep (FY hi.base) (.cells cells e) J (some (.slot d none));have hrow2:=(holds.append hrow).mono hext0.I hext0.same;have hlen2:(olds++news).length=(es.length+xs.length) * it.size:=by rw[AV,holds.1,hrow.1,BS]
   refine .inl ⟨_,_,hfin hr,G.Jr w.heap.size J (some (.slot d none)),?_⟩
   rw[hod]
   refine hi.iK hdv huv hext0 hbase0 rfl rfl (by rw[C9];exact hsfree) (.one (.inl (Kl (by simp) (grownCap_ge ..) hrow2 (fun k hk=>.inr ⟨rfl,_,rfl,by rw[Bc];rw[hlen2] at hk;exact hk⟩) (fun k v hk=>?_)))) (fun _=>?_)
    (by rw[hat _ hne];exact(hsrep.mono hext0.I hext0.same hext0.bl).Ag) (fun _ _=>Cj s)
   ·rw[Bc];have:=N8 w.drew cells e (0,0) k;refine this.trans ?_
    have hlt':=(Ab.1 hk).1;simp only[cells];rw[Dt (by simpa using hlt')]
    simpa using hk
   ·refine⟨w.heap.size,0,grownCap w (es.length+xs.length) sCap e,cells,e,by rw[AV],by simp[Gh.Jr],?_,?_,heap_alloc_new' _ _,?_,hs0,by rw[AV];exact grownCap_ge ..⟩
    ·rintro(h | ⟨_,o,h,_⟩)
     ·have:=hi.base.lt _ _ h;omega
     ·cases h
    ·intro o' ho' h;rcases h with h | ⟨_,o'',h,hlt⟩
     ·have:=hi.base.lt _ _ h;omega
     ·cases h;rw[AV] at ho';omega
    ·have hge:=grownCap_ge w (es.length+xs.length) sCap e;simp only[cells,EE,CL,hlen2,Builtin.zeroCells,Array.size_map,EU,hzs];rw[←BS];have:es.length+xs.length+(grownCap w (es.length+xs.length) sCap e - (es.length+xs.length))=grownCap w (es.length+xs.length) sCap e:=by omega
     rw[this];omega
  cases s with
  |slice own sz es'=>
   cases own with
   |false=>simp[Td] at hes
   |true=>
    simp only[Td] at hes
    split at hes
    case isFalse=>cases hes
    rename_i hsz';subst hsz';cases hes;obtain⟨b,off,cap,cs,elem,ev,hω,hIn,hIt,hheap,hcapsz,_,hle⟩:=hsown;obtain⟨ad,len,cap',cv,ev',e1,e2,e3,e4,e5,e6,e7⟩:=hsrep.Gl;rw[ev] at ev';cases ev';by_cases hfit:es.length+xs.length≤cap
    ·
     have hnlen:news.length=xs.length * it.size:=hsrc.newsLen;have hmul:(es.length+xs.length) * it.size≤cap * it.size:=Bv _ hfit;rw[BS] at hmul
     have hin:∀j,j<news.length→(w.cell? ⟨b,off+es.length * it.size+j,none⟩).isSome=true:=by
      intro j hj;simp only[World.cell?,hheap];have:off+es.length * it.size+j<cs.size:=by omega
      simp[this]
     have hr:=run_append_room_src w sT xT o.type e it hsT hit b off es.length cap (a.eval y) xs.length news hsrc hfit hin (fun j hj=>by simp[World.frozen?,hheap])
     rw[←ev] at hr;obtain⟨olds,holdrow,holdcell,_⟩:=Ki (I:=G.I) hs0 (fun _=>rfl) e4 e6 e7
     let w':=w.setCells b (off+es.length * it.size) news
     let G':Gh:=⟨fun b' x=>G.I b' x∨(b'=b∧∃o,x=some o∧off+es.length * it.size≤o∧o<off+(es.length+xs.length) * it.size),fun b'=>if b'=b then some (.slot d none) else G.ω b',G.bl⟩
     have hsame:Same G.I w w':=by
      refine⟨fun b' o' h=>?_,fun b' h=>?_⟩
      ·refine World.cell?_setCells_out b news _ w _ (fun hb' _=>.inl ?_)
       dsimp only at hb' ⊢;subst hb';rcases Cc o' (off+es.length * it.size) with h' | h'
       ·exact h'
       ·exact absurd h (hIt o' h')
      ·refine Ea b _ _ _ _ (fun e=>?_)
       subst e;exact hIn h
     have hext:Ext (fun tg=>tg=.slot u none∨tg=.slot d none) G G' w w':=by
      refine⟨fun _ _ h=>.inl h,hsame,Bl.le_refl _,fun _ _ _ _=>rfl,fun b' tg h hX=>?_⟩
      have hbb:b'≠b:=by
       intro e;subst e;rw[hω] at h;cases h;exact hX (.inl rfl)
      refine⟨by simp[G',hbb,h],Ea b _ _ _ _ hbb,fun x hx=>?_⟩
      rcases hx with hx | ⟨e,_⟩
      ·exact hx
      ·exact absurd e hbb
     have hnK:=(hi.base.own b _ hω).2
     have hbase:Base cx G' w':=by
      have hb0:=hi.base;refine⟨fun b' hK=>?_,hb0.same.trans hsame hb0.sub,fun b' x h=>.inl (hb0.sub b' x h),fun b' x h=>?_,fun b' x h=>?_,fun b' tg h=>?_,hb0.Klt,by rw[size_setCells];exact hb0.grow,hb0.bl,?_,by rw[JG];exact hb0.tape,?_⟩
      ·rw[Ea b _ _ _ _ (fun e=>hnK (e▸hK))];exact hb0.keep b' hK
      ·rcases h with h | ⟨rfl,_⟩
       ·exact hb0.new b' x h
       ·exact .inr hnK
      ·rw[size_setCells];rcases h with h | ⟨rfl,_⟩
       ·exact hb0.lt b' x h
       ·exact(hb0.own _ _ hω).1
      ·rw[size_setCells];simp only[G'] at h
       split at h
       ·rename_i e;subst e;exact hb0.own _ _ hω
       ·exact hb0.own _ _ h
      ·rw[World.os_setCells];exact hb0.os
      ·rw[World.output_setCells];exact hb0.output
     have hrow2:Hd G'.I w' it.size (olds++news) (es++xs):=(holdrow.append hrow).mono hext.I hext.same;have hlen2:(olds++news).length=(es.length+xs.length) * it.size:=by rw[AV,holdrow.1,hrow.1,BS]
     obtain⟨cur',hcur1,hcur2⟩:=GI b elem (0,0) news (off+es.length * it.size) w cs hheap;refine .inl ⟨_,w',hfin hr,G',?_⟩
     rw[hod]
     refine hi.iK hdv huv hext hbase rfl rfl rfl (.one (.inl (Kl (by simp) (by simpa using hfit) hrow2 (fun k hk=>?_) (fun k v hk=>?_)))) (fun _=>?_)
      (by rw[hat _ hne];exact(hsrep.mono hext.I hext.same hext.bl).Ag) (fun _ _=>Cj _)
     ·rw[hlen2] at hk;by_cases hko:k<es.length * it.size
      ·refine .inl ?_
       have hi':k / it.size<es.length:=(Ey hs0).2 hko;have hj':k % it.size<it.size:=Nat.mod_lt _ hs0;have he':=Ad hi';have hcl:k % it.size<(es[k / it.size]).cells.length:=by rw[e4 _ _ he'];exact hj'
       have:=e5 _ _ _ _ he' (Ad hcl);dsimp only at this;rw[show off+k / it.size * it.size+k % it.size=off+k from by have:=Nat.div_add_mod k it.size;rw[Nat.mul_comm] at this;omega] at this
       exact this
      ·exact .inr ⟨rfl,_,rfl,by omega,by omega⟩
     ·have hkl:=(Ab.1 hk).1;by_cases hko:k<olds.length
      ·rw[Ae hko] at hk;have h0:=holdcell k v hk;rw[Fh] at h0;have:w'.cell? ⟨b,off+k,none⟩=w.cell? ⟨b,off+k,none⟩:=World.cell?_setCells_out b news _ w _ (fun _ _=>.inl (by dsimp only;rw[holdrow.1] at hko;omega))
       rw[this];exact h0
      ·rw[Al (by omega),holdrow.1] at hk
       have hkn:k - es.length * it.size<news.length:=(Ab.1 hk).1;have h0:=World.cell?_setCells_in b news (off+es.length * it.size) w hin _ hkn
       rw[holdrow.1] at hko;rw[show off+es.length * it.size+(k - es.length * it.size)=off+k from by omega] at h0
       rw[h0,←Ad hkn];exact hk
     ·refine⟨b,off,cap,cur',elem,by rw[AV],by simp[G'],?_,?_,hcur2,by omega,hs0,by rw[AV];exact hfit⟩
      ·rintro(h | ⟨_,o',h,_⟩)
       ·exact hIn h
       ·cases h
      ·intro o' ho' h;rw[AV,BS] at ho';rcases h with h | ⟨_,o'',h,h1,h2⟩
       ·exact hIt o' (by omega) h
       ·cases h;rw[BS] at h2;omega
    ·obtain⟨olds,holdrow,holdcell,_⟩:=Ki (I:=G.I) hs0 (fun _=>rfl) e4 e6 e7
     exact grow _ cap olds ev (by omega) holdrow (run_firstCells_some w.drew it.size _ _ _ _ olds holdrow.1 holdcell)
  |nils=>
   simp only[Td] at hes;cases hes;exact grow none 0 [] hsrep.FR (by simpa using hxlen) (Hd.nil ..) (run_firstCells_none w.drew it.size 0 0 0)
  |_=>simp[Td] at hes
end
end Go.Abs

namespace Go.Abs
open Go.RowKit
section
variable{P:Program}{pur:FuncId→Bool}{call:Caller}{fi:FI}{cx:Cx}{G:Gh}{a:Act}{w:World}{A A':Frm}{σ σ':Sto}
theorem Dz{t:Nat}{v:PV}(hk:cx.kd t=.box):DY cx G a w t v↔∃b,at' a t=.pointer (some ⟨b,0,none⟩)∧Fx G w b (.slot t) v.cells:=by
 unfold DY;rw[hk]
theorem Lj(A:Frm):∀(ts:List Nat) (t:Nat) (p:PV),Frm.get (CV A ts (ts.map fun _=>none)) t=some p→t∉ts∧A.get t=some p:=by
 intro ts
 induction ts generalizing A with
 |nil=>intro t p h;exact⟨by simp,h⟩
 |cons s ts ih=>
  intro t p h;simp only[AR,CV] at h;obtain⟨h1,h2⟩:=ih (A.set s none) t p h;rw[C8] at h2
  split at h2
  ·cases h2
  ·rename_i hc;refine⟨?_,h2⟩
   intro hm;rcases Av.1 hm with rfl | hm
   ·by_cases hl:t<A.length
    ·exact hc ⟨rfl,hl⟩
    ·unfold Frm.get at h2;rw[AC (by omega)] at h2
     cases h2
   ·exact h1 hm
theorem DZ(A:Frm):∀(ts:List Nat) (vs:List (Option PV)),(CV A ts vs).length=A.length
 |[],vs=>by cases vs<;>rfl
 |t::ts,[]=>rfl
 |t::ts,v::vs=>by rw[CV,DZ (A.set t v) ts vs];simp
theorem Zj{t d:Nat}(h:fi.alias t=some d):t∈fi.ptrs d:=by
 unfold FI.alias at h;obtain⟨x,hx,rfl⟩:=Ac.1 h;have h1:=List.find?_some hx
 have h2:=List.mem_of_find?_eq_some hx
 simp only[beq_iff_eq] at h1;subst h1;exact Ce.2 ⟨x,DI.2 ⟨h2,by simp⟩,rfl⟩
theorem EO{p q:PV}{j:Nat}(h:p.Ag.cells[j]?=some q):∀(G:Gh) (w:World) (tag:Tag) (c:Value),Eb G w tag c q:=by
 intro G w tag c;cases p with
 |agg cs=>
  simp only[PV.Ag,PV.cells,Af] at h;obtain⟨r,_,rfl⟩:=Ac.1 h;exact Tg r
 |aggr cs=>
  simp only[PV.Ag,PV.cells,Af] at h;obtain⟨r,_,rfl⟩:=Ac.1 h;exact Tg r
 |slice own sz es=>
  cases j with
  |zero=>simp[PV.Ag,PV.cells] at h;subst h;trivial
  |succ j=>simp[PV.Ag,PV.cells] at h
 |_=>
  cases j with
  |zero=>simp[PV.Ag,PV.cells] at h;subst h;trivial
  |succ j=>simp[PV.Ag,PV.cells] at h
theorem QR{I:Imm}{v:Value}{p:PV}(h:Rep I w v p):p.free=true:=by cases h<;>rfl
theorem Bu.free{I:Imm}{bl:Bl}{v:Value}{p:PV}(h:Bu I bl w v p):p.free=true:=by
 cases h with
 |one h=>
  rcases h with h | h
  ·exact QR h
  ·cases h<;>rfl
 |func _ _ _ _=>rfl
 |tuple _ _=>rfl
 |aggr _ _=>rfl
def IQ(I:Imm)(bl:Bl)(w:World)(cs:List Value)(ps:List PV):Prop:=cs.length=ps.length∧∀(i:Nat) (p:PV),ps[i]?=some p→∃c,cs[i]?=some c∧Bu I bl w c p
theorem IQ.ut{I:Imm}{bl:Bl}{cs:List Value}{ps:List PV}(h:O8 I w cs ps):IQ I bl w cs ps:=
 ⟨h.1,fun i p hp=>by obtain⟨c,h1,h2⟩:=h.2 i p hp;exact⟨c,h1,.one (.inl h2)⟩⟩
theorem Ij{p:PV}(h:p.okc=true):p.free=true:=by
 cases p<;>first | rfl | simp[PV.okc,PV.flat,PV.EF,PV.qi] at h
theorem dK(c:PV):((c.D8.flat||c.D8.EF)&&c.D8.one)=((c.flat||c.EF)&&c.one):=by cases c<;>rfl
theorem Kz:∀cs:List PV,(cs.map PV.D8).all (fun c=>(c.flat||c.EF)&&c.one)=cs.all (fun c=>(c.flat||c.EF)&&c.one)
 |[]=>rfl
 |c::cs=>by rw[AR,Bi,Bi,dK,Kz cs]
theorem F7(p:PV):p.Ag.okc=p.okc:=by
 cases p with
 |aggr cs=>exact Kz cs
 |_=>rfl
theorem IQ.pQ{I:Imm}{bl:Bl}{v:Value}{ps:List PV}(h:Bu I bl w v (.aggr ps)):IQ I bl w v.cells.toList ps:=by
 obtain⟨cs,rfl,h1,h2⟩:=h.LX;refine⟨by simpa [Value.cells] using h1,fun i p hp=>?_⟩
 have hlt:i<cs.size:=by rw[h1];exact(Ab.1 hp).1
 have:=h2 i p hp;refine⟨cs[i],by simp[Value.cells,hlt],?_⟩
 rw[Ah,Az hlt] at this;exact .one this
theorem bP{I:Imm}{bl:Bl}{v:Value}{p:PV}(h:Bu I bl w v p)(hk:p.okc=true)(hn:p.isAgg=false∨p.flat=true):Rep I w v p∨(p.cells=[p]∧v.cells=#[v]∧p.Ag=p):=by
 by_cases hf:p.flat=true
 ·exact .inl (h.flat hf)
 ·refine .inr ?_
  cases p with
  |ref id off=>obtain⟨b,_,rfl⟩:=h.Ho;exact⟨rfl,rfl,rfl⟩
  |arr id gen off len size=>obtain⟨_,_,_,_,_,_,_,_,_,_,rfl⟩:=h.Gp;exact⟨rfl,rfl,rfl⟩
  |aptr id gen size i off=>obtain⟨_,_,_,_,rfl⟩:=h.Ir;exact⟨rfl,rfl,rfl⟩
  |mref id=>obtain⟨_,_,rfl⟩:=h.Ik;exact⟨rfl,rfl,rfl⟩
  |func f first cap=>obtain⟨_,_,rfl,_⟩:=h.J3;exact⟨rfl,rfl,rfl⟩
  |aggr cs=>rcases hn with h | h<;>cases h
  |_=>simp[PV.okc,PV.EF,PV.qi] at hk;exact absurd hk hf
theorem IQ.M4{I:Imm}{bl:Bl}{v:Value}{p:PV}(h:Bu I bl w v p)(hk:p.okc=true):IQ I bl w v.cells.toList p.cells:=by
 have hn:(∃cs,p=.aggr cs)∨(p.isAgg=false∨p.flat=true):=by cases p<;>first | exact .inl ⟨_,rfl⟩ | exact .inr (.inl rfl) | exact .inr (.inr rfl)
 rcases hn with⟨cs,rfl⟩ | hn
 ·exact .pQ h
 rcases bP h hk hn with h | ⟨h1,h2,_⟩
 ·exact .ut (O8.OG h)
 ·rw[h1,h2];refine⟨rfl,fun i q hq=>?_⟩
  cases i with
  |zero=>simp at hq;subst hq;exact⟨v,rfl,h⟩
  |succ i=>simp at hq
theorem Inv.jH(hi:Inv cx G a w A σ)(hal:∀t,cx.al t=fi.alias t){d:Nat}(hd:d<cx.nt)(hk:cx.kd d=.box){cs:Array Value}{t:TypeId}{p:PV}(hrep:IQ G.I G.bl w cs.toList p.cells)
  (hown:∀(j:Nat) (q:PV),p.cells[j]?=some q→∀(G:Gh) (w:World) (tag:Tag) (c:Value),Eb G w tag c q) :
  Sim cx (a.put (some d) (.pointer (some ⟨w.heap.size,0,none⟩))) (w.alloc (.cells cs t)) (CV (A.set d (some p)) (fi.ptrs d) ((fi.ptrs d).map fun _=>none)) σ:=by
 let G':=G.Jr w.heap.size (fun _=>False) (some (.slot d none))
 have hext:=EG (fun tg=>∃j,tg=.slot d j) hi.base (.cells cs t) (fun _=>False) (some (.slot d none))
 refine⟨G',hi.step _ (some d) _ hext (Ep hi.base _ _ _) (by rw[DZ];simp) ?_ (fun id cs hc=>.inl ⟨hc,fun j h=>by obtain⟨_,h⟩:=h;cases h⟩) hi.len hi.abl⟩
 intro s q hq;obtain⟨hns,hq⟩:=Lj _ _ _ _ hq;rw[C8] at hq
 split at hq
 ·rename_i hc;cases hq;rw[hc.1];refine .inr ((Dz hk).2 ⟨w.heap.size,EL _ _ _ (by rw[hi.size];exact hd),if_pos rfl,?_,cs,t,heap_alloc_new' _ _,by simpa using hrep.1,fun j r hr=>.inl ⟨?_,hown j r hr ..⟩⟩)
  ·rintro x (h | ⟨_,h⟩)
   ·have:=hi.base.lt _ _ h;omega
   ·exact h
  ·obtain⟨c,hc1,hc2⟩:=hrep.2 j r hr;rw[Aw] at hc1;rw[Ah,hc1];exact hc2.mono hext.I hext.same hext.bl
 ·rename_i hc;have hsd:s≠d:=fun e=>hc ⟨e,by have:=hi.room;omega⟩
  refine .inl ⟨hq,fun e=>hsd (Option.some.inj e).symm,fun j h=>?_,fun d' off e hbx hdd=>?_,fun m hm=>?_⟩
  ·obtain⟨j',h⟩:=h;cases h;exact hsd rfl
  ·have:=Option.some.inj hdd;subst this;subst e;have hsl:=hi.slot s _ hq;unfold DY at hsl
   have hals:cx.al s=some d:=by
    cases hks:cx.kd s with
    |box => 
     rw[hks] at hsl;obtain⟨b,_,h1,h2,cs',el,h3,h4,h5⟩:=hsl;have:=((h5 0 (.lref d off) rfl).rep (by simp)).1
     exact absurd this.free (by simp[PV.free])
    |mapb keys=>rw[hks] at hsl;exact absurd hsl.1 (by simp)
    |ent m key=>rw[hks] at hsl;obtain⟨_,_,_,_,h,_⟩:=hsl;cases h
    |plain=>rw[hks] at hsl;exact hsl.2.1
    |imm=>rw[hks] at hsl;exact hsl.2.1
    |obj=>rw[hks] at hsl;exact hsl.2.1
   rw[hal] at hals;exact hns (Zj hals)
  ·obtain⟨keys,hkm⟩:=cx.ents s m hm;have:m≠d:=fun e=>by rw[e,hk] at hkm;cases hkm
   refine⟨fun e=>this (Option.some.inj e).symm,?_⟩
   rintro⟨j,h⟩;cases h;exact this rfl
end
end Go.Abs

namespace Go.Abs
open Go.RowKit
section
variable{P:Program}{pur:FuncId→Bool}{call:Caller}{fi:FI}{cx:Cx}{G:Gh}{a:Act}{w:World}{A A':Frm}{σ σ':Sto}
theorem tL{d:Nat}{k:PK}{az:List Ct}{clr:List Nat}(h:BV pur call { dst:=some d,k:=.p k,args:=az,clr:=clr } A σ=some (A',σ')):
  ∃vs rs,BJ A az=some vs∧AJ k vs=some rs∧σ'=σ∧∀p,rs=[p]→A'=CV (A.set d p) clr (clr.map fun _=>none):=by
 unfold BV at h;dsimp only at h
 split at h
 ·rename_i vs hvs;simp only[sem] at h
  split at h
  ·rename_i rs σ₁ hs;obtain⟨rs',hrs,e⟩:=Ac.1 hs;cases e;refine⟨vs,rs,hvs,hrs,?_,?_⟩
   ·split at h
    ·cases h;rfl
    ·split at h<;>cases h;rfl
   ·rintro p rfl
    simp[AOp.wr,CV] at h;rw[←h.1]
  ·cases h
 ·cases h
theorem oJ(hi:Inv cx G a w A σ)(hkd:∀t,cx.kd t=fi.kind t)(hal:∀t,cx.al t=fi.alias t){o:Oper}{t:TypeId}{x:Operand}(ho:o.op=.box t x){d:Nat}(hod:o.dst=some d)
  (hd:d<cx.nt) (hk:cx.kd d=.box)
  {az:List Ct} (hc:Aq fi [x]=some az) (hrun:BV pur call { dst:=some d,k:=.p .bxl,args:=az,clr:=fi.ptrs d } A σ=some (A',σ')):Gives P cx o a w A' σ':=by
 obtain⟨vs,rs,he,hs,rfl,hA⟩:=tL hrun;obtain⟨y,zs,rfl,hy,hz⟩:=AL hc;cases hz;obtain⟨p,qs,rfl,hp,hq⟩:=Au he;cases hq;simp only[AJ] at hs
 split at hs
 ·rename_i hf;cases hs;rw[hA _ rfl];have hrep:=(Ba hi hkd hy hp (Ij hf)).Ag;refine .inl ⟨.pointer (some ⟨w.heap.size,0,none⟩),w.alloc (.cells (a.eval x).cells t),?_,?_⟩
  ·simp only[execOp,ho,Instr.box,newVar,newRow];rfl
  ·rw[hod];exact hi.jH hal hd hk (IQ.M4 hrep (by rw[F7];exact hf)) (fun j q hq=>EO hq)
 ·cases hs
theorem TL{v:Value}{p:PV}(h:Pk v=some p):∀(j:Nat) (q:PV),p.cells[j]?=some q→∀(G:Gh) (w:World) (tag:Tag) (c:Value),Eb G w tag c q:=by
 have h0:∀{v:Value} {p:PV},Jd v=some p→∀sz es,p≠.slice true sz es:=by
  intro v p h sz es;unfold Jd at h
  split at h<;>cases h<;>simp
 intro j q hq G w tag c;refine Lm fun sz es e=>?_
 subst e;unfold Pk at h
 split at h
 ·rename_i cs;obtain⟨ps,hps,rfl⟩:=Ac.1 h
  have key:∀(vs:List Value) (ps:List PV),OH vs=some ps→∀(i:Nat) (q:PV),ps[i]?=some q→∃v,Jd v=some q:=by
   intro vs
   induction vs with
   |nil=>intro ps h i q hq;cases h;simp at hq
   |cons v vs ih=>
    intro ps h i q hq;unfold OH at h
    split at h
    ·rename_i r rs h1 h2;cases h;cases i with
     |zero=>simp at hq;subst hq;exact⟨v,h1⟩
     |succ i=>exact ih _ h2 i q (by simpa using hq)
    ·cases h
  obtain⟨v,hv⟩:=key _ _ hps j _ hq;exact h0 hv _ _ rfl
 ·have hp:p.cells=[p]:=by
   cases p with
   |agg cs=>unfold Jd at h;split at h<;>cases h
   |aggr cs=>unfold Jd at h;split at h<;>cases h
   |_=>rfl
  rw[hp] at hq;cases j with
  |zero=>simp at hq;exact h0 h _ _ hq
  |succ j=>simp at hq
theorem sZ(hi:Inv cx G a w A σ)(hal:∀t,cx.al t=fi.alias t){o:Oper}{t:TypeId}(ho:o.op=.alloc t){d:Nat}(hod:o.dst=some d)
  (hd:d<cx.nt) (hk:cx.kd d=.box) {z:PV} (hz:EP P t=some z)
  (hrun:BV pur call { dst:=some d,k:=.p (.zl z),args:=[],clr:=fi.ptrs d } A σ=some (A',σ')):Gives P cx o a w A' σ':=by
 obtain⟨vs,rs,he,hs,rfl,hA⟩:=tL hrun;cases he;simp only[AJ] at hs;cases hs;rw[hA _ rfl];unfold EP at hz
 split at hz
 ·rename_i it hit;obtain⟨zv,hzv,hzp⟩:=AO.1 hz;have hzr:Rep G.I w zv z:=EN hzp;refine .inl ⟨.pointer (some ⟨w.heap.size,0,none⟩),w.alloc (.cells zv.cells t),?_,?_⟩
  ·have hzrun:(zeroValue t).run P w=.ok zv w:=by simp[zeroValue,typeInfo,hit,hzv]
   simp only[execOp,ho,Instr.alloc,Sem.run_bind,hzrun,Result.andThen_ok,newVar,newRow];rfl
  ·rw[hod];exact hi.jH hal hd hk (.ut (O8.OG hzr)) (TL hzp)
 ·cases hz
end
end Go.Abs

namespace Go.Abs
open Go.RowKit
section
variable{P:Program}{pur:FuncId→Bool}{call:Caller}{fi:FI}{cx:Cx}{G:Gh}{a:Act}{w:World}{A A':Frm}{σ σ':Sto}
theorem XK{c v:PV}{off n:Nat}{ag:Bool}(h:sub c off n ag=some v):fits n ag v=true:=by
 unfold sub at h;cases ag with
 |true=>
  cases c with
  |agg cs=>
   dsimp only at h
   split at h
   ·rename_i hc;cases h;simp[fits];omega
   ·cases h
  |_=>cases h
 |false=>
  dsimp only at h
  split at h
  ·split at h
   ·cases h
   ·rename_i hag;cases h;simp only[Df,not_or] at hag;cases v with
    |agg _=>exact absurd rfl hag.1
    |aggr _=>exact absurd rfl hag.1
    |_=>rfl
  ·cases h
theorem QB{c v:PV}{off n:Nat}{ag:Bool}(h:sub c off n ag=some v):∀(j:Nat) (p:PV),v.cells[j]?=some p→p≠.self:=by
 unfold sub at h;cases ag with
 |true=>
  cases c with
  |agg cs=>
   dsimp only at h
   split at h
   ·rename_i hc;cases h;intro j p hp e;subst e;have:=AA hp;have hh:=Ao.1 hc.2 _ this;cases hh
   ·cases h
  |_=>cases h
 |false=>
  dsimp only at h
  split at h
  ·split at h
   ·cases h
   ·rename_i hag;cases h;simp only[Df,not_or] at hag
    have hv:v.cells=[v]:=by
     cases v with
     |agg _=>exact absurd rfl hag.1
     |aggr _=>exact absurd rfl hag.1
     |_=>rfl
    intro j p hp e;subst e;rw[hv] at hp;cases j with
    |zero=>simp at hp;subst hp;exact hag.2 rfl
    |succ j=>simp at hp
  ·cases h
theorem fC{c v:PV}{off n:Nat}(h:sub c off n true=some v):∀(j:Nat) (p:PV),v.cells[j]?=some p→p.flat=true:=by
 unfold sub at h;cases c with
 |agg cs=>
  dsimp only at h
  split at h
  ·rename_i hc;cases h;intro j p hp;exact Ao.1 hc.2 _ (AA hp)
  ·cases h
 |_=>cases h
theorem Dr{t:Nat}{p:PV}{ys:List Ct}{qs:List PV}(he:BJ A (.slot t::ys)=some (p::qs)):A.get t=some p∧BJ A ys=some qs:=by
 simp only[BJ] at he
 split at he
 ·rename_i v vs hg hv;cases he;exact⟨hg,hv⟩
 ·cases he
theorem Pd{I:Imm}{bl:Bl}{b off base n:Nat}{ag:Bool}{t:TypeId}(hn:Ci P t=some (n,ag)){c v:PV}{cs:Array Value}{elem:TypeId}(hheap:w.heap[b]?=some (.cells cs elem (0,0)))
  (hsz:base+c.cells.length≤cs.size) (hall:∀(j:Nat) (p:PV),c.cells[j]?=some p→p≠.self→Bu I bl w (cs.getD (base+j) undef) p) (hsub:sub c off n ag=some v) :
  ∃u,(Instr.loadAt t (.pointer (some ⟨b,base+off,none⟩))).run P w=.ok u w∧Bu I bl w u v:=by
 have hsc:=Mf hsub
 obtain⟨u,h1,h2,h3⟩:=Pe (P:=P) (w:=w) (b:=b) (off:=base+off) (cv:=fun j=>cs.getD (base+(off+j)) undef) hn (XK hsub) (fun j p hp=>by
  have h:=hsc j p hp;have hlt:base+(off+j) < cs.size:=by have:=(Ab.1 h).1;omega
  rw[CU];simp[World.cell?,hheap,Array.getD,hlt])
 refine⟨u,h1,?_⟩
 cases ag with
 |true=>exact .one (.inl (h2 I (fun j p hp=>(hall _ p (hsc j p hp) (QB hsub j p hp)).flat (fC hsub j p hp))))
 |false=>
  obtain⟨rfl,hv⟩:=h3 rfl;have h0:v.cells[0]?=some v:=by rw[hv];rfl
  exact hall _ v (hsc 0 v h0) (QB hsub 0 v h0)
theorem GU{b off n:Nat}{ag:Bool}{t:TypeId}(hn:Ci P t=some (n,ag)){tag:Option Nat→Tag}{c v:PV}(hcell:Fx G w b tag c.cells)(hsub:sub c off n ag=some v):
  ∃u,(Instr.loadAt t (.pointer (some ⟨b,off,none⟩))).run P w=.ok u w∧Bu G.I G.bl w u v:=by
 obtain⟨_,_,cs,elem,hheap,hsz,hall⟩:=hcell;have:=Pd (P:=P) (I:=G.I) (bl:=G.bl) (base:=0) hn hheap (by omega) (fun j p hp hs=>by rw[Bc];exact((hall j p hp).rep hs).1) hsub
 rwa [Bc] at this
theorem Nv{b off n:Nat}{ag:Bool}{t:TypeId}(hn:Ci P t=some (n,ag)){tag:Option Nat→Tag}{c v:PV}(hcell:Fx G w b tag c.cells)(hsub:Tm c off n ag=some v):
  ∃u,(Instr.loadAt t (.pointer (some ⟨b,off,none⟩))).run P w=.ok u w∧Bu G.I G.bl w u v:=by
 unfold Tm at hsub
 split at hsub
 ·rename_i x hx;cases hsub;exact GU hn hcell hx
 ·cases ag with
  |false=>cases hsub
  |true=>
   cases c with
   |agg cs=>
    dsimp only at hsub
    split at hsub
    case isFalse=>cases hsub
    rename_i hc;cases hsub;obtain⟨_,_,vs,elem,hheap,hsz,hall⟩:=hcell;simp only[PV.cells] at hsz hall;have hlt:∀j,j<n→off+j<vs.size:=fun j hj=>by omega
    have h:=run_loadCells (P:=P) (w:=w) ⟨b,off,none⟩ n (fun j=>vs.getD (off+j) undef) (fun j hj=>by
     rw[Fh];simp[World.cell?,hheap,Array.getD,hlt j hj])
    refine⟨.agg ((List.range n).map fun j=>vs.getD (off+j) undef).toArray,by simp[Instr.loadAt,Instr.sureAddr,loadVar,GR hn,run_sizeOf hn,h],.aggr (by simp;omega) fun i p hp=>?_⟩
    have hp':=hp;rw[BQ] at hp
    split at hp
    case isFalse=>cases hp
    rename_i hin;rw[BN] at hp;have e:((List.range n).map fun j=>vs.getD (off+j) undef).toArray.getD i undef=vs.getD (off+i) undef:=by simp[Array.getD,hin]
    rw[e];have hf:=Ao.1 hc.2 p (AA hp');simp only[Ak] at hf;exact((hall _ p hp).rep (by rintro rfl;cases hf.1)).1.iJ hf.1
   |_=>cases hsub
theorem UJ(hi:Inv cx G a w A σ)(hkd:∀t,cx.kd t=fi.kind t)(hnt:cx.nt=fi.nt){o:Oper}{t:TypeId}{d:Nat}(ho:o.op=.load t (.tmp d))(hk:cx.kd d=.box){n:Nat}{ag:Bool}(hn:Ci P t=some (n,ag))
  (hd:BA fi o.dst=true) (hrun:BV pur call { dst:=o.dst,k:=.p (.ldl 0 n ag),args:=[.slot d] } A σ=some (A',σ')):Gives P cx o a w A' σ':=by
 refine F3 hi hkd hnt hd hrun fun vs rs he hs=>?_
 match vs,hs with
 |[c],hs=>
  obtain⟨hg,_⟩:=Dr he;obtain⟨b,hb,hcell⟩:=(Dz hk).1 (hi.slot d c hg);simp only[AJ] at hs;obtain⟨v,hv,e⟩:=Ac.1 hs;cases e;obtain⟨u,h1,h2⟩:=Nv (P:=P) hn hcell hv;have hev:a.eval (.tmp d)=.pointer (some ⟨b,0,none⟩):=hb;exact⟨_,u,rfl,by rw[C9];exact h2.free,by simp[execOp,ho,hev,h1],h2.Ag,fun _=>Cj _⟩
 |[],hs=>simp[AJ] at hs
 |_::_::_,hs=>simp[AJ] at hs
theorem Mr(hi:Inv cx G a w A σ){s d off:Nat}(hg:A.get s=some (.lref d off)):cx.kd d=.box∧cx.al s=some d∧∃b,at' a d=.pointer (some ⟨b,0,none⟩)∧at' a s=.pointer (some ⟨b,off,none⟩):=by
 have h:=hi.slot s _ hg;unfold DY at h;cases hk:cx.kd s with
 |box=>
  rw[hk] at h;obtain⟨b,_,h1,h2,cs',el,h3,h4,h5⟩:=h;have:=((h5 0 (.lref d off) rfl).rep (by simp)).1
  exact absurd this.free (by simp[PV.free])
 |mapb keys=>rw[hk] at h;exact absurd h.1 (by simp)
 |ent m key=>rw[hk] at h;obtain⟨_,_,_,_,h,_⟩:=h;cases h
 |plain | imm | obj=>
  rw[hk] at h;obtain⟨h1,hal,b,h2,h3⟩:=h;refine⟨h1,hal,b,h2,?_⟩
  rw[h3,Fh,Bc]
theorem JX(hi:Inv cx G a w A σ){s d off:Nat}(hg:A.get s=some (.lref d off)):cx.kd d=.box∧∃b,at' a d=.pointer (some ⟨b,0,none⟩)∧at' a s=.pointer (some ⟨b,off,none⟩):=
 ⟨(Mr hi hg).1,(Mr hi hg).2.2⟩
theorem ZB(hi:Inv cx G a w A σ)(hkd:∀t,cx.kd t=fi.kind t)(hnt:cx.nt=fi.nt){o:Oper}{t:TypeId}{s d:Nat}(ho:o.op=.load t (.tmp s)){n:Nat}{ag:Bool}(hn:Ci P t=some (n,ag))
  (hd:BA fi o.dst=true) (hrun:BV pur call { dst:=o.dst,k:=.p (.ldf d n ag),args:=[.slot s,.slot d] } A σ=some (A',σ')):Gives P cx o a w A' σ':=by
 refine F3 hi hkd hnt hd hrun fun vs rs he hs=>?_
 match vs,hs with
 |[l,c],hm=>
  obtain⟨hgs,he2⟩:=Dr he;obtain⟨hg,_⟩:=Dr he2;cases l with
  |lref d' off=>
   simp only[AJ] at hm
   split at hm
   ·rename_i e;subst e;obtain⟨v,hv,e⟩:=Ac.1 hm;cases e;obtain⟨hk,b,hb,hs'⟩:=JX hi hgs;obtain⟨b',hb',hcell⟩:=(Dz hk).1 (hi.slot d' c hg);rw[hb] at hb';cases hb';obtain⟨u,h1,h2⟩:=GU (P:=P) hn hcell hv;have hev:a.eval (.tmp s)=.pointer (some ⟨b,off,none⟩):=hs';exact⟨_,u,rfl,by rw[C9];exact h2.free,by simp[execOp,ho,hev,h1],h2.Ag,fun _=>Cj _⟩
   ·cases hm
  |_=>simp[AJ] at hm
 |[],hs=>simp[AJ] at hs
 |[_],hs=>simp[AJ] at hs
 |_::_::_::_,hs=>simp[AJ] at hs
end
end Go.Abs

namespace Go.Abs
open Go.RowKit
section
variable{P:Program}{pur:FuncId→Bool}{call:Caller}{fi:FI}{cx:Cx}{G:Gh}{a:Act}{w:World}{A A':Frm}{σ σ':Sto}
theorem Inv.UV(hi:Inv cx G a w A σ){u d off b:Nat}(hu:u<cx.nt∧(cx.kd u).val=true)(hk:cx.kd d=.box)(hal:cx.al u=some d)(hb:at' a d=.pointer (some ⟨b,0,none⟩)):
  Inv cx G (a.put (some u) (.pointer (some ⟨b,off,none⟩))) w (A.set u (some (.lref d off))) σ:=by
 have hud:u≠d:=fun e=>by rw[e,hk] at hu;simp[SK.val] at hu
 refine hi.step (fun _=>False) (some u) _ (Ext.refl _ _ _) hi.base (by simp) ?_ (fun _ cs hc=>.inl ⟨hc,fun _ h=>h⟩) hi.len hi.abl
 intro t q hq;rw[C8] at hq
 split at hq
 ·rename_i hc;cases hq;rw[hc.1];refine .inr ?_
  have h1:at' (a.put (some u) (.pointer (some ⟨b,off,none⟩))) u=.pointer (some ⟨b,off,none⟩):=EL _ _ _ (by rw[hi.size];exact hu.1)
  have h2:at' (a.put (some u) (.pointer (some ⟨b,off,none⟩))) d=.pointer (some ⟨b,0,none⟩):=by rw[FO _ _ _ _ (fun e=>hud (Option.some.inj e))];exact hb
  unfold DY;cases hku:cx.kd u<;>rw[hku] at hu<;>first | (simp[SK.val] at hu;done) | exact⟨hk,hal,b,h2,by rw[h1,Fh,Bc]⟩
 ·rename_i hc;have hne:u≠t:=fun e=>hc ⟨e.symm,by have:=hi.room;omega⟩
  refine .inl ⟨hq,fun e=>hne (Option.some.inj e),fun _ h=>h,fun d' off' e hbx hd'=>?_,fun m hm=>⟨fun e'=>?_,fun h=>h⟩⟩
  ·have:=Option.some.inj hd';subst this;rw[hbx] at hu;simp[SK.val] at hu
  ·have:=Option.some.inj e';subst this;obtain⟨keys,hkm⟩:=cx.ents t u hm;rw[hkm] at hu;simp[SK.val] at hu
theorem oq(hi:Inv cx G a w A σ)(hkd:∀t,cx.kd t=fi.kind t)(hnt:cx.nt=fi.nt)(hal:∀t,cx.al t=fi.alias t){o:Oper}{t:TypeId}{d f u:Nat}(ho:o.op=.fieldAddr t (.tmp d) f)(hou:o.dst=some u)
  {fs:Array Field} {fl:Field} (hs':P.underlying t=some (.struct fs)) (hf:fs[f]?=some fl) {n:Nat} {ag:Bool} (hn:Ci P fl.type=some (n,ag)) (hn0:n≠0)
  (hk:cx.kd d=.box) (hau:fi.alias u=some d) (hd:CJ fi u=true) (hrun:BV pur call { dst:=some u,k:=.p (.fal d fl.offset),args:=[.slot d] } A σ=some (A',σ')):Gives P cx o a w A' σ':=by
 obtain⟨vs,rs,he,hs,rfl,hA⟩:=bu hrun
 match vs,hs with
 |[c],hm=>
  obtain⟨hg,_⟩:=Dr he;obtain⟨b,hb,hcell⟩:=(Dz hk).1 (hi.slot d c hg);simp only[AJ] at hm;rw[hA _ (Option.some.inj hm).symm];have hev:a.eval (.tmp d)=.pointer (some ⟨b,0,none⟩):=hb;refine .inl ⟨.pointer (some ⟨b,fl.offset,none⟩),w,?_,G,?_⟩
  ·have:=Ii (P:=P) (w:=w) hs' hf hn hn0 b 0;rw[Bc] at this;simp[execOp,ho,hev,this]
  ·rw[hou];exact hi.UV (En hkd hnt hd) hk (by rw[hal];exact hau) hb
 |[],hm=>simp[AJ] at hm
 |_::_::_,hm=>simp[AJ] at hm
theorem gD(hi:Inv cx G a w A σ)(hkd:∀t,cx.kd t=fi.kind t)(hnt:cx.nt=fi.nt)(hal:∀t,cx.al t=fi.alias t){o:Oper}{t:TypeId}{s d f u:Nat}(ho:o.op=.fieldAddr t (.tmp s) f)(hou:o.dst=some u)
  {fs:Array Field} {fl:Field} (hs':P.underlying t=some (.struct fs)) (hf:fs[f]?=some fl) {n:Nat} {ag:Bool} (hn:Ci P fl.type=some (n,ag)) (hn0:n≠0)
  (has:fi.alias s=some d) (hau:fi.alias u=some d) (hd:CJ fi u=true) {off:Nat} {d':Nat} (hgs:A.get s=some (.lref d' off))
  (hrun:BV pur call { dst:=some u,k:=.p (.fa fl.offset n ag),args:=[.slot s] } A σ=some (A',σ')):Gives P cx o a w A' σ':=by
 obtain⟨vs,rs,he,hs,rfl,hA⟩:=bu hrun
 have hvs:vs=[.lref d' off]:=by
  simp only[BJ,hgs] at he;cases he;rfl
 subst hvs;simp only[AJ,faV] at hs;rw[hA _ (Option.some.inj hs).symm]
 have hdd:d'=d:=by
  have:=(Mr hi hgs).2.1;rw[hal,has] at this;exact(Option.some.inj this).symm
 subst hdd;obtain⟨hk,b,hb,hss⟩:=JX hi hgs;have hev:a.eval (.tmp s)=.pointer (some ⟨b,off,none⟩):=hss;refine .inl ⟨.pointer (some ⟨b,off+fl.offset,none⟩),w,?_,G,?_⟩
 ·have:=Ii (P:=P) (w:=w) hs' hf hn hn0 b off;simp[execOp,ho,hev,this]
 ·rw[hou];exact hi.UV (En hkd hnt hd) hk (by rw[hal];exact hau) hb
end
end Go.Abs

namespace Go.Abs
open Go.RowKit
section
variable{P:Program}{pur:FuncId→Bool}{call:Caller}{fi:FI}{cx:Cx}{G:Gh}{a:Act}{w:World}{A A':Frm}{σ σ':Sto}
theorem GJ{X:Tag→Prop}{b:Nat}{t0:Tag}(hω:G.ω b=some t0)(hI:∀x,¬G.I b x)(hX:X t0)(cs:Array Value):Ext X G G w (w.setRow b cs):=by
 have hne:∀b' x,G.I b' x→b'≠b:=fun b' x h e=>hI x (e▸h)
 refine⟨fun _ _ h=>h,⟨fun b' o h=>cell_of_heap (setRow_other _ _ _ _ (hne _ _ h)),fun b' h=>setRow_other _ _ _ _ (hne _ _ h)⟩,Bl.le_refl _,fun _ _ _ _=>rfl,fun b' tg h' hn=>⟨h',setRow_other _ _ _ _ ?_,fun _ h=>h⟩⟩
 intro e;subst e;rw[hω] at h';cases h';exact hn hX
theorem Gi(hb:Base cx G w){b:Nat}{t0:Tag}(hω:G.ω b=some t0)(hI:∀x,¬G.I b x)(cs:Array Value):Base cx G (w.setRow b cs):=by
 have hne:∀b' x,G.I b' x→b'≠b:=fun b' x h e=>hI x (e▸h)
 have hK:∀b',cx.K b'→b'≠b:=fun b' h e=>(hb.own b t0 hω).2 (e▸h)
 refine⟨fun b' h=>?_,?_,hb.sub,hb.new,fun b' x h=>by rw[setRow_size];exact hb.lt b' x h,fun b' tg h=>by rw[setRow_size];exact hb.own b' tg h,hb.Klt,by rw[setRow_size];exact hb.grow,hb.bl,hb.os,hb.tape,hb.output⟩
 ·rw[setRow_other _ _ _ _ (hK b' h)];exact hb.keep b' h
 ·exact hb.same.trans (I':=G.I) ⟨fun b' o h=>cell_of_heap (setRow_other _ _ _ _ (hne _ _ h)),fun b' h=>setRow_other _ _ _ _ (hne _ _ h)⟩ hb.sub
theorem Fp{b off:Nat}{t elem:TypeId}{n:Nat}{ag:Bool}(hn:Ci P t=some (n,ag)){cs:Array Value}(hheap:w.heap[b]?=some (.cells cs elem (0,0))){v:Value}(hv:v.cells.size=n)
  (hone:∀x∈v.cells.toList,x.oneCell'=true) (hfit:off+n≤cs.size) :
  (Instr.storeAt t (.pointer (some ⟨b,off,none⟩)) v).run P w=.ok () (w.setRow b (cs.toList.take off++v.cells.toList++cs.toList.drop (off+v.cells.toList.length)).toArray):=by
 have:=run_storeCells_at P b off elem v.cells.toList 0 cs w hheap (by simp;omega) hone
 simp only[Nat.add_zero] at this;simp[Instr.storeAt,Instr.sureAddr,storeVar,run_sizeOf hn,hv] at this ⊢;exact this
theorem NF{I:Imm}{v:Value}{p:PV}(h:Rep I w v p)(hp:p.ones=true):∀x∈v.cells.toList,x.oneCell'=true:=by
 intro x hx;obtain⟨i,hi⟩:=Bb.1 hx;obtain⟨h1,h2⟩:=O8.OG h;have hlt:i<p.cells.length:=by rw[←h1];exact(Ab.1 hi).1
 have hq:=Ad hlt;obtain⟨c,hc,hr⟩:=h2 i _ hq;rw[hi] at hc;cases hc;exact Qj hr (Ao.1 hp _ (AQ hlt))
theorem NG{I:Imm}{bl:Bl}{v:Value}{p:PV}(h:Bu I bl w v p)(hk:p.okc=true)(hp:p.ones=true):∀x∈v.cells.toList,x.oneCell'=true:=by
 by_cases hf:p.flat=true
 ·exact NF (h.flat hf) hp
 ·cases p with
  |ref id off=>obtain⟨b,_,rfl⟩:=h.Ho;intro x hx;simp[Value.cells] at hx;subst hx;rfl
  |arr id gen off len size=>obtain⟨_,_,_,_,_,_,_,_,_,_,rfl⟩:=h.Gp;intro x hx;simp[Value.cells] at hx;subst hx;rfl
  |aptr id gen size i off=>obtain⟨_,_,_,_,rfl⟩:=h.Ir;intro x hx;simp[Value.cells] at hx;subst hx;rfl
  |mref id=>obtain⟨_,_,rfl⟩:=h.Ik;intro x hx;simp[Value.cells] at hx;subst hx;rfl
  |func f first cap=>obtain⟨_,_,rfl,_⟩:=h.J3;intro x hx;simp[Value.cells] at hx;subst hx;rfl
  |aggr ps=>
   intro x hx;obtain⟨cs,rfl,h1,h2⟩:=h.LX;simp only[Value.cells] at hx;obtain⟨i,hi⟩:=Bb.1 hx;rw[Aw] at hi;have hlt:i<ps.length:=by rw[←h1];exact(Bd.1 hi).1
   have hc:=h2 i _ (Ad hlt);rw[Ah,hi] at hc;have h3:=Ao.1 hk _ (AQ hlt);simp only[Ak] at h3;rcases hc with hc | hc
   ·exact Qj hc h3.2
   ·cases hc':ps[i] with
    |ref id off=>rw[hc'] at hc;cases hc;rfl
    |arr id gen off len size=>rw[hc'] at hc;cases hc;rfl
    |aptr id gen size i off=>rw[hc'] at hc;cases hc;rfl
    |mref id=>rw[hc'] at hc;cases hc;rfl
    |_=>rw[hc'] at hc;cases hc
  |_=>simp[PV.okc,PV.EF,PV.qi] at hk;exact absurd hk hf
theorem Ma{c x c':PV}{off:Nat}(h:upd c off x=some c'):c'.cells=EJ c.cells off x.cells∧off+x.cells.length≤c.cells.length:=by
 unfold upd at h
 split at h
 ·split at h
  ·rename_i hl;cases h;exact⟨rfl,hl⟩
  ·cases h
 ·split at h
  ·rename_i hl;cases h;exact⟨rfl,hl⟩
  ·cases h
 ·rename_i hna hna2
  split at h
  ·cases h
  ·cases h
  ·rename_i hxa hxa2
   split at h
   ·rename_i h0;cases h;subst h0;have e1:c.cells=[c]:=by cases c<;>first | rfl | exact absurd rfl (hna _) | exact absurd rfl (hna2 _)
    have e2:x.cells=[x]:=by cases x<;>first | rfl | exact absurd rfl (hxa _) | exact absurd rfl (hxa2 _)
    rw[e1,e2];exact⟨rfl,by simp⟩
   ·cases h
theorem JF{G':Gh}{w':World}{b off:Nat}{tag:Option Nat→Tag}{ps qs:List PV}{ds:List Value}{cs:Array Value}{elem:TypeId}
  (hω:G'.ω b=some (tag none)) (hI:∀x,¬G'.I b x) (hheap:w'.heap[b]?=some (.cells (cs.toList.take off++ds++cs.toList.drop (off+ds.length)).toArray elem (0,0)))
  (hsz:cs.size=ps.length) (hl:off+qs.length≤ps.length) (hds:ds.length=qs.length)
  (hold:∀(j:Nat) (p:PV),ps[j]?=some p→(j<off∨off+qs.length≤j)→L8 G' w' b (tag (some j)) (cs.getD j undef) p)
  (hnew:∀(j:Nat) (q:PV),qs[j]?=some q→∃c,ds[j]?=some c∧L8 G' w' b (tag (some (off+j))) c q):Fx G' w' b tag (EJ ps off qs):=by
 have hcl:cs.toList.length=ps.length:=by simpa using hsz
 have e1:(cs.toList.take off).length=off:=by rw[Bj,hcl];omega
 have e2:(ps.take off).length=off:=by rw[Bj];omega
 refine⟨hω,hI,_,elem,hheap,?_,fun j p hp=>?_⟩
 ·unfold EJ;simp only[CL,AV,Bj,CX,hcl,hds]
 ·have hgetD:∀(k:Nat) (c:Value) (l:List Value),l[k]?=some c→l.toArray.getD k undef=c:=by
   intro k c l h;rw[Ah,Cz,h];rfl
  unfold EJ at hp;rw[BP] at hp ⊢;by_cases h1:j<off
  ·rw[Ae (by omega),BQ,if_pos h1] at hp
   have r1:=hold j p hp (.inl h1)
   have:(cs.toList.take off++(ds++cs.toList.drop (off+ds.length))).toArray.getD j undef=cs.getD j undef:=by
    rw[Ah,Cz,Ae (by omega),BQ,if_pos h1,Aw,Ah]
   rw[this];exact r1
  ·rw[Al (by omega),e2] at hp
   by_cases h2:j - off<qs.length
   ·rw[Ae h2] at hp;obtain⟨c,hc,r2⟩:=hnew _ p hp
    have:(cs.toList.take off++(ds++cs.toList.drop (off+ds.length))).toArray.getD j undef=c:=by
     apply hgetD;rw[Al (by omega),e1,Ae (by omega)];exact hc
    rw[this];rw[show off+(j - off)=j from by omega] at r2
    exact r2
   ·rw[Al (by omega),BN] at hp
    rw[show off+qs.length+(j - off - qs.length)=j from by omega] at hp
    have r1:=hold j p hp (.inr (by omega))
    have:(cs.toList.take off++(ds++cs.toList.drop (off+ds.length))).toArray.getD j undef=cs.getD j undef:=by
     rw[Ah,Cz,Al (by omega),e1,Al (by omega),BN,
      show off+ds.length+(j - off - ds.length)=j from by omega,Aw,Ah]
    rw[this];exact r1
theorem Inv.VF{G':Gh}{w':World}{X:Tag→Prop}{T:Nat→Prop}{d b:Nat}{c':PV}(hi:Inv cx G a w A σ)(dst:Option Nat)(v:Value)(hdst:∀u,dst=some u→(cx.kd u).val=true)
  (hk:cx.kd d=.box) (hb:at' a d=.pointer (some ⟨b,0,none⟩)) (hcells:Fx G' w' b (.slot d) c'.cells) (he:Ext X G G' w w') (hbase:Base cx G' w') (hbl:G'.bl=G.bl)
  (hX:∀tg,X tg→∃t j,tg=.slot t j∧(t=d∨T t)) (hT:∀t,T t→(cx.kd t).val=true) (hl:A'.length=A.length)
  (hA:∀t p,A'.get t=some p→(t=d∧p=c')∨(t≠d∧¬T t∧dst≠some t∧A.get t=some p)∨DY cx G' (a.put dst v) w' t p):Inv cx G' (a.put dst v) w' A' σ:=by
 have hval:∀m,(cx.kd m).val=false→dst≠some m∧¬T m:=fun m hm=>by
  refine⟨fun e=>?_,fun e=>?_⟩
  ·rw[hdst m e] at hm;cases hm
  ·rw[hT m e] at hm;cases hm
 refine hi.step X dst v he hbase hl ?_ ?_ (by rw[hbl];exact hi.len) (by rw[hbl];exact hi.abl)
 ·intro t p hp;rcases hA t p hp with⟨rfl,rfl⟩ | ⟨h1,h2,h3,h4⟩ | h
  ·refine .inr ((Dz hk).2 ⟨b,?_,hcells⟩)
   rw[FO _ _ _ _ (hval t (by rw[hk];rfl)).1];exact hb
  ·refine .inl ⟨h4,h3,fun j hx=>?_,fun d' off e hbx=>(hval d' (by rw[hbx];rfl)).1,fun m hm=>?_⟩
   ·obtain⟨t',j',e,h⟩:=hX _ hx;cases e;rcases h with h | h
    ·exact h1 h
    ·exact h2 h
   ·obtain⟨keys,hkm⟩:=cx.ents t m hm;have:=hval m (by rw[hkm];rfl)
    refine⟨this.1,fun hx=>?_⟩
    obtain⟨t',j',e,h⟩:=hX _ hx;cases e;rcases h with h | h
    ·rw[h,hk] at hkm;cases hkm
    ·exact this.2 h
  ·exact .inr h
 ·intro id cs hc;refine .inl ⟨hc,fun j hx=>?_⟩
  obtain⟨t',j',e,_⟩:=hX _ hx;cases e
end
end Go.Abs
