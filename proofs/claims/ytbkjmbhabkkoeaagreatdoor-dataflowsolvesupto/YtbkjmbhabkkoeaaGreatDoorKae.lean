/- A part of the proof: A34 A27. -/
import Derived.Test.YtbkjmbhabkkoeaaGreatDoorKad

set_option linter.unusedVariables false
set_option linter.unusedSimpArgs false
namespace Go.Abs
open Go.RowKit
section
variable{P:Program}{pur:FuncId→Bool}{call:Caller}{fi:FI}{cx:Cx}{G:Gh}{a:Act}{w:World}{A A':Frm}{σ σ':Sto}
theorem Bq.D7{I:Imm}{bl:Bl}{v:Value}{p:PV}(h:Bq I bl w v p):Bq I bl w v p.D7:=by
 cases p with
 |slice own sz es=>exact h.Ag
 |_=>exact h
theorem UM(p:PV):p.Ag.cells=p.cells.map PV.D7:=by cases p<;>rfl
def Kj(I:Imm)(bl:Bl)(w:World)(size:Nat)(cs:List Value)(es:List PV):Prop:=
 cs.length=es.length * size∧(∀(i:Nat) (e:PV),es[i]?=some e→e.cells.length=size)∧
 ∀(i:Nat) (e:PV) (j:Nat) (p:PV),es[i]?=some e→e.cells[j]?=some p→∃c,cs[i * size+j]?=some c∧Bq I bl w c p
theorem Kj.gN{I:Imm}{bl:Bl}{size:Nat}{cs:List Value}{es:List PV}(h:GR I w size cs es):Kj I bl w size cs es:=
 ⟨h.1,h.2.1,fun i e j p he hp=>let ⟨c,h1,h2⟩:=h.2.2 i e j p he hp;⟨c,h1,.one (.inl h2)⟩⟩
theorem Kj.mono{I I':Imm}{bl bl':Bl}{w w':World}{size:Nat}{cs:List Value}{es:List PV}(h:Kj I bl w size cs es)(hI:∀b x,I b x→I' b x)(hs:Same I w w')(hb:bl.le bl'):Kj I' bl' w' size cs es:=
 ⟨h.1,h.2.1,fun i e j p he hp=>let ⟨c,h1,h2⟩:=h.2.2 i e j p he hp;⟨c,h1,h2.mono hI hs hb⟩⟩
theorem Kj.nil(I:Imm)(bl:Bl)(w:World)(size:Nat):Kj I bl w size [] []:=⟨by simp,fun i e h=>by simp at h,fun i e j p h=>by simp at h⟩
theorem Kj.append{I:Imm}{bl:Bl}{size:Nat}{cs ds:List Value}{es fs:List PV}(h:Kj I bl w size cs es)(k:Kj I bl w size ds fs):Kj I bl w size (cs++ds) (es++fs):=by
 refine⟨by simp[h.1,k.1,BS],fun i e he=>?_,fun i e j p he hp=>?_⟩
 ·by_cases hi:i<es.length
  ·rw[Ae hi] at he;exact h.2.1 i e he
  ·rw[Al (by omega)] at he;exact k.2.1 _ e he
 ·by_cases hi:i<es.length
  ·rw[Ae hi] at he;obtain⟨c,h1,h2⟩:=h.2.2 i e j p he hp;refine⟨c,?_,h2⟩
   rw[Ae (Ab.1 h1).1];exact h1
  ·rw[Al (by omega)] at he
   obtain⟨c,h1,h2⟩:=k.2.2 _ e j p he hp;refine⟨c,?_,h2⟩
   have hge:es.length * size≤i * size:=Br _ (by omega)
   rw[Al (by rw[h.1];omega),h.1]
   rw[Nat.sub_mul] at h1;rw[show i * size+j - es.length * size=i * size - es.length * size+j from by omega]
   exact h1
theorem Kj.Ag{I:Imm}{bl:Bl}{size:Nat}{cs:List Value}{es:List PV}(h:Kj I bl w size cs es):Kj I bl w size cs (es.map PV.Ag):=by
 refine⟨by rw[Av];exact h.1,fun i e he=>?_,fun i e j p he hp=>?_⟩
 ·rw[Af] at he;obtain⟨e',he',rfl⟩:=Ac.1 he;rw[CL];exact h.2.1 i e' he'
 ·rw[Af] at he;obtain⟨e',he',rfl⟩:=Ac.1 he;rw[UM,Af] at hp;obtain⟨q,hq,rfl⟩:=Ac.1 hp;obtain⟨c,h1,h2⟩:=h.2.2 i e' j q he' hq;exact⟨c,h1,h2.D7⟩
theorem gG{I:Imm}{bl:Bl}{c:Value}{p:PV}(h:Bq I bl w c p)(hp:p.one=true):c.oneCell'=true:=by
 cases h with
 |one h=>
  rcases h with h | h
  ·exact Pj h hp
  ·cases h<;>rfl
 |func _ _ _ _=>rfl
 |tuple _ _=>cases hp
 |aggr _ _=>cases hp
theorem gB{I:Imm}{bl:Bl}{size:Nat}(hs0:0<size){cs:List Value}{es:List PV}(h:Kj I bl w size cs es)(hones:es.all PV.ones=true):∀u∈cs,u.oneCell'=true:=by
 intro u hu;rw[Ao] at hones;obtain⟨k,hk⟩:=Bj.1 hu;have hkl:k<es.length * size:=by have:=(Ab.1 hk).1;rw[h.1] at this;exact this
 have hi:k / size<es.length:=(Ex hs0).2 hkl;have hj:k % size<size:=Nat.mod_lt _ hs0;have he:=Ad hi;have hcl:k % size<(es[k / size]).cells.length:=by rw[h.2.1 _ _ he];exact hj
 obtain⟨c,h1,h2⟩:=h.2.2 _ _ _ _ he (Ad hcl);rw[show k / size * size+k % size=k from by rw[Nat.mul_comm];exact Nat.div_add_mod k size,hk] at h1
 cases h1;exact gG h2 (Ao.1 (hones _ (AU hi)) _ (AU hcl))
theorem J2{id gen size off len b base n:Nat}{es:List PV}{cs:Array Value}{elem:TypeId}(hs0:0<size)(hheap:w.heap[b]?=some (.cells cs elem (0,0)))(hn:base+es.length * size≤cs.size)
  (hall:∀(i:Nat) (e:PV),es[i]?=some e→e.cells.length=size∧∀(j:Nat) (p:PV),e.cells[j]?=some p→Bq G.I G.bl w (cs.getD (base+i * size+j) undef) p) (hl:off+len≤es.length) :
  ∃ds:List Value,Kj G.I G.bl w size ds ((es.drop off).take len)∧∀(j:Nat) (v:Value),ds[j]?=some v→w.cell? ⟨b,base+off * size+j,none⟩=some v:=by
 have hlen:((es.drop off).take len).length=len:=by rw[Bn,CW];omega
 have hget:∀k,k<len * size→((List.range (len * size)).map fun k=>cs.getD (base+off * size+k) undef)[k]?=some (cs.getD (base+off * size+k) undef):=by
  intro k hk;rw[Af,Cn hk];rfl
 have hel:∀(i:Nat) (e:PV),((es.drop off).take len)[i]?=some e→i<len∧es[off+i]?=some e:=by
  intro i e he;rw[BQ] at he
  split at he
  ·rename_i hlt;rw[BO] at he;exact⟨hlt,he⟩
  ·cases he
 have hmul:(off+len) * size≤es.length * size:=Br _ hl;rw[BS] at hmul;refine⟨(List.range (len * size)).map fun k=>cs.getD (base+off * size+k) undef,⟨by simp[hlen],fun i e he=>(hall _ _ (hel i e he).2).1,fun i e j p he hp=>?_⟩,fun k v hk=>?_⟩
 ·obtain⟨h1,h2⟩:=hel i e he;obtain⟨h3,h4⟩:=hall _ _ h2;have hj:j<size:=by rw[←h3];exact(Ab.1 hp).1
  have hlt:i * size+j<len * size:=by
   have:(i+1) * size≤len * size:=Br _ (by omega)
   rw[CG] at this;omega
  refine⟨_,hget _ hlt,?_⟩
  have:=h4 j p hp;rw[BS] at this;rw[show base+off * size+(i * size+j)=base+(off * size+i * size)+j from by omega]
  exact this
 ·have hkl:k<len * size:=by have:=(Ab.1 hk).1;simpa using this
  rw[hget k hkl] at hk;cases hk;have hlt:base+off * size+k<cs.size:=by omega
  simp[World.cell?,hheap,Array.getD,hlt]
theorem MS{id gen off len size:Nat}{es:List PV}(h:JF σ id gen off len size=some es):∃fs,σ[id]?=some [.arrv gen size fs]∧off+len≤fs.length∧es=(fs.drop off).take len:=by
 unfold JF at h
 split at h
 ·rename_i cs hσ
  split at h
  ·rename_i fs hfs
   split at h
   ·rename_i hl;cases h;rw[Ki hfs] at hσ;exact⟨fs,hσ,hl,rfl⟩
   ·cases h
  ·cases h
 ·cases h
theorem Lt(hi:Inv cx G a w A σ){size:Nat}(hs0:0<size){xT:TypeId}(hxT:∃e',P.underlying xT=some (.slice e')){v:Value}{x:PV}(hr:Bq G.I G.bl w v x){xs:List PV}(hx:JS size σ x=some xs)
  (hones:xs.all PV.ones=true):∃news,Src P size xT v xs.length news w∧Kj G.I G.bl w size news xs:=by
 cases x with
 |slice own sz es=>
  obtain⟨news,h1,h2⟩:=TN (P:=P) (G:=G) hs0 (.inl hxT) hr (xs:=xs) hx hones;exact⟨news,h1,.gN h2⟩
 |nils=>
  obtain⟨news,h1,h2⟩:=TN (P:=P) (G:=G) hs0 (.inl hxT) hr (xs:=xs) hx hones;exact⟨news,h1,.gN h2⟩
 |empt=>
  obtain⟨ad,rfl⟩:=hr.Ic;cases hx;obtain⟨e',hk⟩:=hxT;exact⟨[],Src.ofSlice w hk ad 0 0 [] (by simp) (fun j u hu=>by simp at hu) (fun u hu=>by cases hu),Kj.nil _ _ _ _⟩
 |arr id gen off len sz=>
  simp only[JS] at hx
  split at hx
  ·rename_i hsz';subst hsz';obtain⟨fs,hσ,hl,rfl⟩:=MS hx;obtain⟨b0,base0,n0,cap,b',o',hb,hcap,hcn,hat,rfl⟩:=hr.Gw;obtain⟨b,base,n,cs,elem,h1,h2,hω,hI,hheap,h6,h7,h8,h9⟩:=NA hi hσ;rw[hb] at h1;cases h1;obtain⟨ds,hrow,hcell⟩:=J2 (G:=G) (id:=id) (gen:=gen) (n:=n0) (off:=off) (len:=len) hs0 hheap (by omega) h9 hl
   have hlen:((fs.drop off).take len).length=len:=by rw[Bn,CW];omega
   have hrl:=hrow.1;rw[hlen] at hrl;refine⟨ds,?_,hrow⟩
   rw[hlen];obtain⟨e',hk⟩:=hxT;refine Src.ofSlice w hk ⟨b',o',none⟩ len cap ds hrl (fun j u hu=>?_) (gB hs0 hrow hones)
   have hjl:=(Ab.1 hu).1
   have hl0:0<len:=by
    rcases Nat.eq_zero_or_pos len with h | h
    ·subst h;rw[Nat.zero_mul] at hrl;omega
    ·exact h
   obtain⟨rfl,rfl⟩:=hat (by omega)
   rw[Fa];exact hcell j u hu
  ·cases hx
 |_=>simp[JS] at hx
theorem Kh{I:Imm}{bl:Bl}{w':World}{size base:Nat}{cs:Array Value}{news:List Value}{es:List PV}(hrow:Kj I bl w' size news es)(hc:∀(k:Nat) (v:Value),news[k]?=some v→cs.getD (base+k) undef=v):
  ∀(i:Nat) (e:PV),es[i]?=some e→e.cells.length=size∧∀(j:Nat) (p:PV),e.cells[j]?=some p→Bq I bl w' (cs.getD (base+i * size+j) undef) p:=by
 intro i e he;refine⟨hrow.2.1 i e he,fun j p hp=>?_⟩
 obtain⟨c,h1,h2⟩:=hrow.2.2 i e j p he hp;rw[CP,hc _ _ h1];exact h2
def Bl.gen(bl:Bl)(id gen:Nat)(x:Nat×Nat×Nat):Bl:=⟨bl.l,fun k g=>if k=id∧g=gen then some x else bl.ab k g⟩
theorem Bl.QM{bl:Bl}{id gen:Nat}(h:bl.ab id gen=none)(x:Nat×Nat×Nat):bl.le (bl.gen id gen x):=by
 refine⟨List.prefix_rfl,fun k g y hy=>?_⟩
 show(if _ then _ else _)=_
 rw[if_neg]
 ·exact hy
 ·rintro⟨rfl,rfl⟩;rw[h] at hy;cases hy
theorem Bl.XZ(bl:Bl)(id gen:Nat)(x:Nat×Nat×Nat):(bl.gen id gen x).ab id gen=some x:=if_pos ⟨rfl,rfl⟩
theorem Bl.J9(bl:Bl){id gen k g:Nat}(x:Nat×Nat×Nat)(h:¬(k=id∧g=gen)):(bl.gen id gen x).ab k g=bl.ab k g:=if_neg h
theorem MB(cells:Array Value)(news:List Value)(rest:Array Value)(h:cells=news.toArray++rest):∀(k:Nat) (v:Value),news[k]?=some v→cells.getD (0+k) undef=v:=by
 intro k v hk;have hlt:=(Ab.1 hk).1;rw[Bb,h,Ah,Dw (by simpa using hlt),Cy,hk];rfl
theorem Nc(hi:Inv cx G a w A σ){d:Nat}(hdv:d<cx.nt∧(cx.kd d).val=true){o:Oper}(hod:o.dst=some d){w1:World}(hx0:Ext (fun _=>False) G G w w1)(hb0:Base cx G w1)
  {cells:Array Value} {e:TypeId} {size len cap:Nat} {es:List PV} (hs0:0<size) (hcap:len≤cap) (hsz:cells.size=cap * size) (hlen:es.length=len)
  (hes:∀(i:Nat) (e:PV),es[i]?=some e→e.cells.length=size∧∀(j:Nat) (p:PV),e.cells[j]?=some p→Bq G.I G.bl w (cells.getD (0+i * size+j) undef) p)
  (hr:(execOp a.eval o).run P w=.ok (.value (.slice (some ⟨w1.heap.size,0,none⟩) len cap)) (w1.alloc (.cells cells e))) :
  Gives P cx o a w (A.set d (some (.arr σ.length 0 0 len size))) (σ++[[.arrv 0 size es]]):=by
 let G1:=G.Jd w1.heap.size (fun _=>False) (some (.obj σ.length none))
 let bl':Bl:=⟨G.bl.l++[w1.heap.size],(G.bl.gen σ.length 0 (w1.heap.size,0,cells.size)).ab⟩
 let G':Gh:={ G1 with bl:=bl' }
 have hnone:∀g,G.bl.ab σ.length g=none:=by
  intro g;cases h:G.bl.ab σ.length g with
  |none=>rfl
  |some y=>have:=hi.abl _ _ _ h;omega
 have hble:G.bl.le bl':=⟨Ck _ _,(Bl.QM (hnone 0) _).2⟩;have hext1:=hx0.trans (EH (fun _=>False) hb0 (.cells cells e) (fun _=>False) (some (.obj σ.length none)))
 have hext:Ext (fun _=>False) G G' w (w1.alloc (.cells cells e)):=⟨hext1.I,hext1.same,hble,fun id hid _ g=>Bl.J9 _ _ (by rw[hi.len] at hid;omega),hext1.fix⟩
 have hb1:=Ep hb0 (.cells cells e) (fun _=>False) (some (.obj σ.length none))
 have hbase:Base cx G' (w1.alloc (.cells cells e)):=⟨hb1.keep,hb1.same,hb1.sub,hb1.new,hb1.lt,hb1.own,hb1.Klt,hb1.grow,hi.base.bl.trans hble,hb1.os,hb1.tape,hb1.output⟩
 have hbl:G'.bl.l[σ.length]?=some w1.heap.size:=by
  show(G.bl.l++[w1.heap.size])[σ.length]?=_;rw[←hi.len];simp
 have habn:G'.bl.ab σ.length 0=some (w1.heap.size,0,cells.size):=Bl.XZ ..
 have hval:Ga G'.bl (.slice (some ⟨w1.heap.size,0,none⟩) len cap) (.arr σ.length 0 0 len size):=
  .arr habn hcap (by rw[Bb,Bb,hsz];exact Bd _) (fun _=>⟨rfl,by omega⟩)
 refine .inl ⟨_,_,hr,G',?_⟩
 rw[hod];refine hi.step (fun _=>False) (some d) _ hext hbase (by simp) ?_ ?_ ?_ ?_
 ·intro t q hq;rw[CY] at hq
  split at hq
  ·rename_i h;cases hq;refine .inr ?_
   rw[h.1,BL hdv.2 rfl,EN _ _ _ (by rw[hi.size];exact hdv.1)]
   exact⟨.one (.inr hval),trivial⟩
  ·rename_i h;refine .inl ⟨hq,fun e=>h ⟨(Option.some.inj e).symm,by have:=hi.room;have:=hdv.1;omega⟩,fun _ h=>h,fun d' off e' hbx hdd=>?_,fun m hm=>⟨fun e'=>?_,fun h=>h⟩⟩
   ·cases hdd;have:=hdv.2;rw[hbx] at this;simp[SK.val] at this
   ·cases e';obtain⟨keys,hkm⟩:=cx.ents t d hm;have:=hdv.2;rw[hkm] at this;simp[SK.val] at this
 ·intro id cs' hc';by_cases hid:id<σ.length
  ·rw[Ae hid] at hc';exact .inl ⟨hc',fun _ h=>h⟩
  ·have:id=σ.length:=by
    have:=(Ab.1 hc').1;simp at this;omega
   subst this;simp at hc';subst hc'
   refine .inr ⟨w1.heap.size,hbl,.inr (.inr (.inr (.inl ⟨0,size,_,rfl,w1.heap.size,0,cells.size,cells,e,habn,fun g hg=>?_,if_pos rfl,?_,heap_alloc_new' _ _,rfl,hs0,?_,
    fun i e he=>⟨(hes i e he).1,fun j p hp=>((hes i e he).2 j p hp).mono hext.I hext.same hext.bl⟩⟩)))⟩
   ·exact(Bl.J9 _ _ (by omega)).trans (hnone g)
   ·rintro x (h | ⟨_,h⟩)
    ·have:=hb0.lt _ _ h;omega
    ·exact h
   ·rw[hlen,Bb,hsz];exact Br _ hcap
 ·show(G.bl.l++[w1.heap.size]).length=_;simp[hi.len]
 ·intro id g y hy;show id<(σ++_).length;simp only[Bi,BD,De];by_cases h:id=σ.length∧g=0
  ·omega
  ·have:=hi.abl id g y ((Bl.J9 _ _ h).symm.trans hy);omega
theorem dN(hi:Inv cx G a w A σ)(hkd:∀t,cx.kd t=fi.kind t)(hnt:cx.nt=fi.nt){o:Oper}{c:Call}(ho:o.op=.call c)(hb:c.callee=.builtin .append)
  {sT xT e:TypeId} {d:Nat} {y1 y:Operand} (hargs:c.args=#[y1,y]) (htys:c.argTypes=#[sT,xT]) (hod:o.dst=some d)
  (hsT:P.underlying sT=some (.slice e)) (hxT:∃e',P.underlying xT=some (.slice e')) {it:TypeInfo} (hit:P.info? e=some it)
  (hs0:0<it.size) (hby:it.bytes≤4096) (hz:(it.zero.map (·.cells.size))=some it.size)
  {az:List Co} (hc:Am fi [y1,y]=some az) (hd:CF fi d=true)
  (hrun:BV pur call { dst:=some d,k:=.w (.Gg it.size),args:=az } A σ=some (A',σ')):Gives P cx o a w A' σ':=by
 obtain⟨vs,rs,he,hsem,hA,_⟩:=GX hrun;obtain⟨z1,zs,rfl,hy1,hz1⟩:=AO hc;obtain⟨z2,zs,rfl,hy2,hz2⟩:=AO hz1;cases hz2;obtain⟨s,qs,rfl,hs,hq⟩:=Aq he;obtain⟨x,qs,rfl,hx,hq⟩:=Aq hq;cases hq;have hdv:=Eo hkd hnt hd;obtain⟨z,hz',hzs⟩:=Ac.1 hz;simp only[sem,Cu] at hsem
 split at hsem
 case h_2=>cases hsem
 rename_i xs hxs;have hxfree:x.free=true:=by cases x<;>first | rfl | simp[JS] at hxs
 have hxrep:=Ba hi hkd hy2 hx hxfree;have hsfree:s.free=true:=by cases s<;>first | rfl | simp[Gg] at hsem
 have hsrep:=Ba hi hkd hy1 hs hsfree;obtain⟨consts,hrun'⟩:=EZ (P:=P) (w:=w) (a:=a) ho hb;rw[hargs,htys] at hrun';have hev:(#[y1,y].map a.eval)=#[a.eval y1,a.eval y]:=by simp
 rw[hev] at hrun'
 have hfin:∀{v:Value} {w':World},(Builtin.append_ #[sT,xT] o.type #[a.eval y1,a.eval y]).run P w=.ok v w'→(execOp a.eval o).run P w=.ok (.value v) w':=by
  intro v w' h;rw[hrun'];simp only[builtin,Sem.run_bind,h,Result.andThen_ok,Sem.run_pure]
 have hput:∀p,rs=[some p]→A'=A.set d (some p):=by
  rintro p rfl
  rw[hA rfl];rfl
 have stay:∀{v:Value},rs=[some s]→σ'=σ→a.eval y1=v→(Builtin.append_ #[sT,xT] o.type #[v,a.eval y]).run P w=.ok v w→(∀sz es,s≠.slice true sz es)→Gives P cx o a w A' σ':=by
  intro v h1 h2 h3 h4 h5;subst h2;rw[hput _ h1];refine .inl ⟨v,w,hfin (by rw[h3];exact h4),G,?_⟩
  rw[hod];exact hi.Jw (Ext.refl _ _ _) hi.base rfl (some d) (fun t e=>by cases e;exact hdv) hsfree (by rw[←h3];exact hsrep) (fun _ _=>KT h5)
 have frame:∀(G':Gh) (w':World) (v:Value) (p:PV),p.free=true→Bq G'.I G'.bl w' v p→(∀tag,Ed G' w' tag v p)→∀(t:Nat) (q:PV),Frm.get (A.set d (some p)) t=some q→
   (¬False∧some d≠some t∧A.get t=some q)∨DV cx G' (a.put (some d) v) w' t q:=by
  intro G' w' v p hf hr how t q hq;rw[CY] at hq
  split at hq
  ·rename_i h;cases hq;refine .inr ?_
   rw[h.1,BL hdv.2 hf,EN _ _ _ (by rw[hi.size];exact hdv.1)]
   exact⟨hr,how _⟩
  ·rename_i h;exact .inl ⟨fun h=>h,fun e=>h ⟨(Option.some.inj e).symm,by have:=hi.room;have:=hdv.1;omega⟩,hq⟩
 cases s with
 |nils=>
  have ev:=hsrep.FK;simp only[Gg] at hsem
  split at hsem
  ·rename_i hemp;have hxe:xs=[]:=D9.1 hemp;subst hxe;cases hsem;obtain⟨news,hsrc,_⟩:=Lt (P:=P) hi hs0 hxT hxrep hxs (by rfl)
   have hn0:news=[]:=Bz.1 (by rw[hsrc.newsLen];simp)
   subst hn0;refine stay rfl rfl ev ?_ (by simp)
   have hc0:=hsrc.cells;have hl0:=hsrc.len w;simp only[De] at hc0 hl0;obtain⟨e',hk⟩:=hxT;simp[Builtin.append_,run_underlying hsT,run_underlying hk,sizeOf,typeInfo,hit,hl0,hc0]
  ·rename_i hemp
   split at hsem
   case isFalse=>cases hsem
   rename_i hcond;obtain⟨hmax,hones,hokc⟩:=hcond;cases hsem;rw[hput _ rfl];obtain⟨news,hsrc,hrow⟩:=Lt (P:=P) hi hs0 hxT hxrep hxs hones
   have hxlen:0<xs.length:=by
    cases xs with
    |nil=>simp at hemp
    |cons _ _=>simp
   have hr:=run_append_grow_src w sT xT o.type e it z hsT hit hz' none 0 0 [] (run_firstCells_none w.drew it.size 0 0 0) (a.eval y) xs.length news hsrc (by omega) (by unfold Cr at hmax;omega) (IZ (by omega) (by omega) hby)
   rw[←ev] at hr;simp only[Bb,BK] at hr
   let cap:=grownCap w xs.length 0 e
   let rest:Array Value:=Builtin.zeroCells z.cells (cap - xs.length)
   have hcap:xs.length≤cap:=grownCap_ge ..
   have hsz:(news.toArray++rest).size=cap * it.size:=by
    simp only[rest,EF,CJ,hrow.1,Builtin.zeroCells,Array.size_map,ES,hzs];rw[←BS];congr 1;omega
   exact Nc hi hdv hod (I6 (G:=G) (w:=w) (fun _=>False)) (FQ hi.base) hs0 hcap hsz (by simp) (Kh hrow.Ag (MB _ news rest rfl)) (hfin hr)
 |empt=>
  obtain⟨ad,ev⟩:=hsrep.Ic;simp only[Gg] at hsem
  split at hsem
  ·rename_i hemp;have hxe:xs=[]:=D9.1 hemp;subst hxe;cases hsem;obtain⟨news,hsrc,_⟩:=Lt (P:=P) hi hs0 hxT hxrep hxs (by rfl)
   have hn0:news=[]:=Bz.1 (by rw[hsrc.newsLen];simp)
   subst hn0;refine stay rfl rfl ev ?_ (by simp)
   have hc0:=hsrc.cells;have hl0:=hsrc.len w;simp only[De] at hc0 hl0;obtain⟨e',hk⟩:=hxT;simp[Builtin.append_,run_underlying hsT,run_underlying hk,sizeOf,typeInfo,hit,hl0,hc0,storeCells]
  ·rename_i hemp
   split at hsem
   case isFalse=>cases hsem
   rename_i hcond;obtain⟨hmax,hones,hokc⟩:=hcond;cases hsem;rw[hput _ rfl];obtain⟨news,hsrc,hrow⟩:=Lt (P:=P) hi hs0 hxT hxrep hxs hones
   have hxlen:0<xs.length:=by
    cases xs with
    |nil=>simp at hemp
    |cons _ _=>simp
   have hr:=run_append_grow_src w sT xT o.type e it z hsT hit hz' (some ad) 0 0 [] (run_firstCells_some w.drew it.size 0 ad 0 0 [] (by simp) (fun j u h=>by simp at h)) (a.eval y) xs.length news hsrc (by omega) (by unfold Cr at hmax;omega) (IZ (by omega) (by omega) hby)
   rw[←ev] at hr;simp only[Bb,BK] at hr
   let cap:=grownCap w xs.length 0 e
   let rest:Array Value:=Builtin.zeroCells z.cells (cap - xs.length)
   have hcap:xs.length≤cap:=grownCap_ge ..
   have hsz:(news.toArray++rest).size=cap * it.size:=by
    simp only[rest,EF,CJ,hrow.1,Builtin.zeroCells,Array.size_map,ES,hzs];rw[←BS];congr 1;omega
   exact Nc hi hdv hod (I6 (G:=G) (w:=w) (fun _=>False)) (FQ hi.base) hs0 hcap hsz (by simp) (Kh hrow.Ag (MB _ news rest rfl)) (hfin hr)
 |arr id gen off len sz=>
  simp only[Gg] at hsem
  split at hsem
  case isFalse=>cases hsem
  rename_i hsz';subst hsz'
  split at hsem
  case h_2=>cases hsem
  rename_i es hes;obtain⟨fs,hσ,hl,rfl⟩:=MS hes;obtain⟨b0,base0,n0,cap,b',o',hbb,hcap,hcn,hat,ev⟩:=hsrep.Gw;obtain⟨b,base,n,cs,elem,h1,h2,hω,hI,hheap,h6,h7,h8,h9⟩:=NA hi hσ;rw[hbb] at h1;cases h1;have hidlt:=(Ab.1 hσ).1;have hlen:((fs.drop off).take len).length=len:=by rw[Bn,CW];omega
  split at hsem
  ·rename_i hemp;have hxe:xs=[]:=D9.1 hemp;subst hxe;cases hsem;obtain⟨news,hsrc,_⟩:=Lt (P:=P) hi hs0 hxT hxrep hxs (by rfl)
   have hn0:news=[]:=Bz.1 (by rw[hsrc.newsLen];simp)
   subst hn0;exact stay rfl rfl ev (run_append_room_src w sT xT o.type e it hsT hit b' o' len cap _ _ [] hsrc (by simpa using hcap) (by simp) (by simp)) (by simp)
  ·rename_i hemp
   split at hsem
   case isFalse=>cases hsem
   rename_i hcond;obtain⟨hmax,hones,hokc⟩:=hcond;cases hsem;rw[hput _ rfl];obtain⟨news,hsrc,hrow⟩:=Lt (P:=P) hi hs0 hxT hxrep hxs hones
   have hxlen:0<xs.length:=by
    cases xs with
    |nil=>simp at hemp
    |cons _ _=>simp
   obtain⟨olds,holdrow,holdcell⟩:=J2 (G:=G) (id:=id) (gen:=gen) (n:=n0) (off:=off) (len:=len) hs0 hheap (by omega) h9 hl
   have holdlen:olds.length=len * it.size:=by rw[holdrow.1,hlen]
   have hnewlen:news.length=xs.length * it.size:=hrow.1;have hnone:G.bl.ab id (gen+1)=none:=h2 _ (by omega)
   obtain⟨bo,hbo,_⟩:=hi.obj id _ hσ;by_cases hfit:len+xs.length≤cap
   ·
    obtain⟨rfl,rfl⟩:=hat (by omega)
    have hmul:(off+(len+xs.length)) * it.size≤(off+cap) * it.size:=Br _ (by omega)
    have hmul2:(off+(len+xs.length)) * it.size=off * it.size+len * it.size+xs.length * it.size:=by rw[BS,BS];omega
    have hmul3:(off+cap) * it.size=off * it.size+cap * it.size:=BS ..
    let k:=base0+off * it.size+len * it.size
    have hin:∀j,j<news.length→(w.cell? ⟨b',k+j,none⟩).isSome=true:=by
     intro j hj;simp only[World.cell?,hheap];have:k+j<cs.size:=by show base0+off * it.size+len * it.size+j<cs.size;omega
     simp[this]
    have hr:=run_append_room_src w sT xT o.type e it hsT hit b' (base0+off * it.size) len cap (a.eval y) xs.length news hsrc hfit hin (fun j hj=>by simp[World.frozen?,hheap])
    rw[←ev] at hr
    let w':=w.setCells b' k news
    let bl':Bl:=G.bl.gen id (gen+1) (b',base0+off * it.size,n0)
    let G':Gh:=⟨G.I,G.ω,bl'⟩
    have hne:∀b2 x,G.I b2 x→b2≠b':=fun b2 x h e=>hI x (e▸h)
    have hsame:Same G.I w w':=⟨fun b2 o2 h=>cell_of_heap (Ec b' _ _ _ _ (hne _ _ h)),fun b2 h=>Ec b' _ _ _ _ (hne _ _ h)⟩
    have hext:Ext (fun tg=>tg=.obj id none) G G' w w':=by
     refine⟨fun _ _ h=>h,hsame,Bl.QM hnone _,fun id' hid' hX g=>Bl.J9 _ _ (fun hh=>hX none (by rw[hh.1])),fun b2 tg h hX=>?_⟩
     have hb2:b2≠b':=by
      intro e2;subst e2;rw[hω] at h;cases h;exact hX rfl
     exact⟨h,Ec b' _ _ _ _ hb2,fun x hx=>hx⟩
    have hnK:=(hi.base.own b' _ hω).2
    have hbase:Base cx G' w':=by
     have hb0:=hi.base;refine⟨fun b2 hK=>?_,hb0.same.trans hsame hb0.sub,hb0.sub,hb0.new,fun b2 x h=>by rw[size_setCells];exact hb0.lt b2 x h,fun b2 tg h=>by rw[size_setCells];exact hb0.own b2 tg h,hb0.Klt,by rw[size_setCells];exact hb0.grow,hb0.bl.trans (Bl.QM hnone _),?_,by rw[Js];exact hb0.tape,?_⟩
     ·rw[Ec b' _ _ _ _ (fun e2=>hnK (e2▸hK))];exact hb0.keep b2 hK
     ·rw[World.os_setCells];exact hb0.os
     ·rw[World.output_setCells];exact hb0.output
    obtain⟨cur',hcur1,hcur2⟩:=Gz b' elem (0,0) news k w cs hheap;have habn:G'.bl.ab id (gen+1)=some (b',base0+off * it.size,n0):=Bl.XZ ..;have hrow2:=((holdrow.append hrow.Ag)).mono hext.I hext.same hext.bl
    have hcellw:∀(j:Nat) (v:Value),(olds++news)[j]?=some v→cur'.getD (base0+off * it.size+j) undef=v:=by
     intro j v hj
     have key:w'.cell? ⟨b',base0+off * it.size+j,none⟩=some v:=by
      by_cases hjo:j<olds.length
      ·rw[Ae hjo] at hj;have h0:=holdcell j v hj;rw[←h0];exact World.cell?_setCells_out b' news _ w _ (fun _ _=>.inl (by dsimp only;show _<base0+off * it.size+len * it.size;omega))
      ·rw[Al (by omega),holdlen] at hj
       have hkn:j - len * it.size<news.length:=(Ab.1 hj).1;have h0:=World.cell?_setCells_in b' news k w hin _ hkn
       rw[show k+(j - len * it.size)=base0+off * it.size+j from by show base0+off * it.size+len * it.size+(j - len * it.size)=_;omega] at h0
       rw[h0,←Ad hkn];exact hj
     simp only[World.cell?] at key;rw[hcur2] at key;rw[Ah];simp at key;rw[key];rfl
    have hval:Ga G'.bl (.slice (some ⟨b',base0+off * it.size,none⟩) (len+xs.length) cap) (.arr id (gen+1) 0 (len+xs.length) it.size):=
     .arr habn hfit (by rw[Bb];omega) (fun _=>⟨rfl,by omega⟩)
    refine .inl ⟨_,w',hfin hr,G',?_⟩
    rw[hod]
    refine hi.Na (X:=fun tg=>tg=.obj id none) (T:=fun _=>False) (some d) _ (fun u e=>by cases e;exact hdv.2) hidlt
     ⟨bo,hbo,.inr (.inr (.inr (.inl ⟨gen+1,it.size,_,rfl,b',base0+off * it.size,n0,cur',elem,habn,fun g hg=>?_,hω,hI,hcur2,by omega,hs0,?_,Kh hrow2 hcellw⟩)))⟩ hext hbase rfl (fun k' g x hx=>?_) (fun tg h=>.inl ⟨none,h⟩) (fun _ h=>h.elim) (by simp)
     (frame G' w' _ _ rfl (.one (.inr hval)) (fun _=>trivial))
    ·exact(Bl.J9 _ _ (by omega)).trans (h2 g (by omega))
    ·rw[Bi,Av,hlen,BS];omega
    ·by_cases hh:k'=id∧g=gen+1
     ·rw[hh.1];exact hidlt
     ·exact hi.abl k' g x ((Bl.J9 _ _ hh).symm.trans hx)
   ·
    have hg:cap<len+xs.length:=by omega
    have hfc:(Builtin.firstCells it.size len (.slice (some ⟨b',o',none⟩) len cap)).run P w.drew=.ok olds.toArray w.drew:=by
     refine run_firstCells_some w.drew it.size len ⟨b',o',none⟩ len cap olds holdlen (fun j v hj=>?_)
     have hjl:=(Ab.1 hj).1
     have hl0:0<len:=by
      rcases Nat.eq_zero_or_pos len with h | h
      ·subst h;rw[Nat.zero_mul] at holdlen;omega
      ·exact h
     obtain⟨rfl,rfl⟩:=hat (by omega)
     rw[Fa];exact holdcell j v hj
    have hr:=run_append_grow_src w sT xT o.type e it z hsT hit hz' (some ⟨b',o',none⟩) len cap olds hfc (a.eval y) xs.length news hsrc hg (by unfold Cr at hmax;omega) (IZ hg hmax hby)
    rw[←ev] at hr
    let cap':=grownCap w (len+xs.length) cap e
    let rest:Array Value:=Builtin.zeroCells z.cells (cap' - (len+xs.length))
    let cells:Array Value:=(olds++news).toArray++rest
    have hcap':len+xs.length≤cap':=grownCap_ge ..
    have hsz:cells.size=cap' * it.size:=by
     simp only[cells,rest,EF,CJ,Bi,holdlen,hnewlen,Builtin.zeroCells,Array.size_map,ES,hzs];rw[←BS,←BS];congr 1;omega
    let G1:=G.Jd w.heap.size (fun _=>False) (some (.obj id none))
    let bl':Bl:=G.bl.gen id (gen+1) (w.heap.size,0,cells.size)
    let G':Gh:={ G1 with bl:=bl' }
    have hext1:=(I6 (G:=G) (w:=w) (fun tg=>tg=.obj id none)).trans (EH (fun tg=>tg=.obj id none) (FQ hi.base) (.cells cells e) (fun _=>False) (some (.obj id none)))
    have hext:Ext (fun tg=>tg=.obj id none) G G' w (w.drew.alloc (.cells cells e)):=⟨hext1.I,hext1.same,Bl.QM hnone _,fun id' hid' hX g=>Bl.J9 _ _ (fun hh=>hX none (by rw[hh.1])),hext1.fix⟩
    have hb1:=Ep (FQ hi.base) (.cells cells e) (fun _=>False) (some (.obj id none))
    have hbase:Base cx G' (w.drew.alloc (.cells cells e)):=⟨hb1.keep,hb1.same,hb1.sub,hb1.new,hb1.lt,hb1.own,hb1.Klt,hb1.grow,hi.base.bl.trans (Bl.QM hnone _),hb1.os,hb1.tape,hb1.output⟩;have habn:G'.bl.ab id (gen+1)=some (w.heap.size,0,cells.size):=Bl.XZ ..;have hrow2:=((holdrow.append hrow.Ag)).mono hext.I hext.same hext.bl
    have hval:Ga G'.bl (.slice (some ⟨w.heap.size,0,none⟩) (len+xs.length) cap') (.arr id (gen+1) 0 (len+xs.length) it.size):=
     .arr habn hcap' (by rw[Bb,Bb,hsz];exact Bd _) (fun _=>⟨rfl,by omega⟩)
    refine .inl ⟨_,_,hfin hr,G',?_⟩
    rw[hod];show Inv cx G' (a.put (some d) (.slice (some ⟨w.heap.size,0,none⟩) (len+xs.length) cap')) (w.drew.alloc (.cells cells e)) _ _
    refine hi.Na (X:=fun tg=>tg=.obj id none) (T:=fun _=>False) (some d) _ (fun u e=>by cases e;exact hdv.2) hidlt
     ⟨bo,hbo,.inr (.inr (.inr (.inl ⟨gen+1,it.size,_,rfl,w.heap.size,0,cells.size,cells,e,habn,fun g hg=>?_,if_pos rfl,?_,heap_alloc_new' _ _,rfl,hs0,?_,Kh hrow2 (MB cells (olds++news) rest rfl)⟩)))⟩ hext hbase rfl (fun k' g x hx=>?_) (fun tg h=>.inl ⟨none,h⟩) (fun _ h=>h.elim) (by simp)
     (frame G' (w.drew.alloc (.cells cells e)) (.slice (some ⟨w.heap.size,0,none⟩) (len+xs.length) cap') _ rfl (.one (.inr hval)) (fun _=>trivial))
    ·exact(Bl.J9 _ _ (by omega)).trans (h2 g (by omega))
    ·rintro x (h | ⟨_,h⟩)
     ·have:=hi.base.lt _ _ h;omega
     ·exact h
    ·rw[Bi,Av,hlen,Bb,hsz];exact Br _ hcap'
    ·by_cases hh:k'=id∧g=gen+1
     ·rw[hh.1];exact hidlt
     ·exact hi.abl k' g x ((Bl.J9 _ _ hh).symm.trans hx)
 |_=>simp[Gg] at hsem
theorem Te(hi:Inv cx G a w A σ){id gen off len size:Nat}{es:List PV}(hes:JF σ id gen off len size=some es)(hfl:es.all (fun e=>e.flat&&e.cells.all PV.flat)=true):
  ∃G',Inv cx G' a w A (σ.set id [.dead])∧G'.bl=G.bl∧(∀b x,G.I b x→G'.I b x)∧∀v,Bq G.I G.bl w v (.arr id gen off len size)→Rep G'.I w v (.slice false size es):=by
 obtain⟨fs,hσ,hl,rfl⟩:=MS hes;obtain⟨b,base,n,cs,elem,h1,h2,hω,hI,hheap,h6,h7,h8,h9⟩:=NA hi hσ;obtain⟨bo,hbo,_⟩:=hi.obj id _ hσ
 let J:Option Nat→Prop:=fun x=>∃o,x=some o
 have hext:=Rh (G:=G) (w:=w) (X:=fun tg=>tg=.obj id none) hω rfl J
 refine⟨G.shut b J,hi.Na (X:=fun tg=>tg=.obj id none) (T:=fun _=>False) none undef (fun u e=>by cases e) (Ab.1 hσ).1 ⟨bo,hbo,.inr (.inr (.inl rfl))⟩ hext (LP hi.base hω J) rfl hi.abl
  (fun tg h=>.inl ⟨none,h⟩) (fun _ h=>h.elim) rfl (fun t q hq=>.inl ⟨fun h=>h,by simp,hq⟩),rfl,fun _ _ h=>.inl h,fun v hv=>?_⟩
 obtain⟨b0,base0,n0,cap,b',o',hbb,hcap,hcn,hat,ev⟩:=hv.Gw;rw[hbb] at h1;cases h1;have hlen:((fs.drop off).take len).length=len:=by rw[Bn,CW];omega
 obtain⟨ds,hrow,hcell⟩:=J2 (G:=G) (id:=id) (gen:=gen) (n:=n) (off:=off) (len:=len) h7 hheap (by omega) h9 hl
 have hflat:∀(i:Nat) (e:PV) (j:Nat) (p:PV),((fs.drop off).take len)[i]?=some e→e.cells[j]?=some p→p.flat=true:=by
  intro i e j p he hp;have:=Ao.1 hfl e (Az he);rw[Ak] at this;exact Ao.1 this.2 p (Az hp)
 have hrow2:GR (G.shut b J).I w size ds ((fs.drop off).take len):=by
  refine⟨hrow.1,hrow.2.1,fun i e j p he hp=>?_⟩
  obtain⟨c,c1,c2⟩:=hrow.2.2 i e j p he hp;exact⟨c,c1,(c2.flat (hflat i e j p he hp)).mono hext.I hext.same⟩
 rw[ev];by_cases hl0:len=0
 ·have hemp:(fs.drop off).take len=[]:=by rw[hl0];simp
  rw[hemp] at hlen ⊢;exact .slice (fun _ _=>undef) hlen.symm hcap (fun h=>absurd rfl h) (fun i e h=>by simp at h) (fun i e j p h=>by simp at h) (fun i e j p h=>by simp at h) (fun i e j p h=>by simp at h)
 ·obtain⟨rfl,rfl⟩:=hat (by omega)
  exact J4 hlen.symm hcap hrow2 (fun k _=>.inr ⟨rfl,_,rfl⟩) (fun k v hk=>hcell k v hk)
theorem Q3(hi:Inv cx G a w A σ){id gen off len size:Nat}{es:List PV}(hes:JF σ id gen off len size=some es)(hfl:es.all (fun e=>e.flat&&e.cells.all PV.flat)=true):
  ∃G',Inv cx G' a w A (σ.set id [.dead])∧∀v,Bq G.I G.bl w v (.arr id gen off len size)→Rep G'.I w v (.slice false size es):=by
 obtain⟨G',h1,_,_,h4⟩:=Te hi hes hfl;exact⟨G',h1,h4⟩
theorem Og:∀(ps:List PV) {vs:List PV} {σ σ':Sto},Q4 ps σ=some (vs,σ')→∀{G:Gh},Inv cx G a w A σ→
  ∃G',Inv cx G' a w A σ'∧G'.bl=G.bl∧(∀b x,G.I b x→G'.I b x)∧vs.length=ps.length∧∀(i:Nat) (p q:PV),ps[i]?=some p→vs[i]?=some q→∀c,GG G.I G.bl w c p→Rep G'.I w c q
 |[],vs,σ,σ',h,G,hi=>by
  cases h;exact⟨G,hi,rfl,fun _ _ h=>h,rfl,fun i p q hp=>by simp at hp⟩
 |c::cs,vs,σ,σ',h,G,hi=>by
  have flat:c.flat=true→(Q4 cs σ).map (fun(vs,σ')=>(c.D7::vs,σ'))=some (vs,σ')→∃G',Inv cx G' a w A σ'∧G'.bl=G.bl∧(∀b x,G.I b x→G'.I b x)∧vs.length=(c::cs).length∧∀(i:Nat) (p q:PV),(c::cs)[i]?=some p→vs[i]?=some q→∀u,GG G.I G.bl w u p→Rep G'.I w u q:=by
   intro hf h;obtain⟨⟨us,σ1⟩,h1,e⟩:=Ac.1 h;cases e;obtain⟨G',i1,i2,i3,i4,i5⟩:=Og cs h1 hi;refine⟨G',i1,i2,i3,by simp[i4],fun i p q hp hq u hu=>?_⟩
   cases i with
   |zero=>
    simp at hp hq;subst hp hq;exact(((Bq.one hu).flat hf).mono i3 (Same.refl _ _)).D7
   |succ i=>exact i5 i p q (by simpa using hp) (by simpa using hq) u hu
  unfold Q4 at h
  split at h
  ·rename_i id gen off len size
   split at h
   case h_2=>cases h
   rename_i es hes
   split at h
   case isFalse=>cases h
   rename_i hfl;obtain⟨⟨us,σ1⟩,h1,e⟩:=Ac.1 h;cases e;obtain⟨G1,j1,j2,j3,j4⟩:=Te hi hes hfl;obtain⟨G',i1,i2,i3,i4,i5⟩:=Og cs h1 j1;refine⟨G',i1,i2.trans j2,fun b x h=>i3 _ _ (j3 _ _ h),by simp[i4],fun i p q hp hq u hu=>?_⟩
   cases i with
   |zero=>
    simp at hp hq;subst hp hq;exact(j4 u (.one hu)).mono i3 (Same.refl _ _)
   |succ i=>exact i5 i p q (by simpa using hp) (by simpa using hq) u (hu.mono j3 (Same.refl _ _) (by rw[j2];exact Bl.le_refl _))
  ·split at h
   ·rename_i hf;exact flat hf h
   ·cases h
theorem Inv.reset(hi:Inv cx G a w A σ){d:Nat}{p:PV}(hs:DV cx G a w d p):Inv cx G a w (A.set d (some p)) σ:=by
 refine⟨hi.defers,hi.size,by rw[Bw];exact hi.room,hi.base,fun t v hv=>?_,hi.obj,hi.len,hi.abl⟩
 rw[CY] at hv
 split at hv
 ·rename_i h;cases hv;rw[h.1];exact hs
 ·exact hi.slot t v hv
theorem lU(hi:Inv cx G a w A σ)(hkd:∀t,cx.kd t=fi.kind t)(hnt:cx.nt=fi.nt){o:Oper}{x:Operand}(ho:o.op=.move x)
  {az:List Co} (hc:Am fi [x]=some az) (hd:Bt fi o.dst=true) (hrun:BV pur call { dst:=o.dst,k:=.w .frz,args:=az } A σ=some (A',σ')):Gives P cx o a w A' σ':=by
 obtain⟨vs,rs,he,hs,hA1,hA2⟩:=GX hrun;obtain⟨y,zs,rfl,hy,hz⟩:=AO hc;cases hz;obtain⟨p,qs,rfl,hp,hq⟩:=Aq he;cases hq
 have hA:∀q,rs=[some q]→A'=Gx A o.dst q:=by
  rintro q rfl
  cases hdd:o.dst with
  |none=>
   rw[hdd] at hA2;exact(hA2 (by simp)).1
  |some d=>
   rw[hdd] at hA1;rw[hA1 rfl];rfl
 have hrun0:(execOp a.eval o).run P w=.ok (.value (a.eval x)) w:=by simp[execOp,ho]
 have hdst:=DK hkd hnt hd;cases p with
 |nils=>
  simp only[sem,Cu] at hs;cases hs;rw[hA _ rfl];exact .inl ⟨_,w,hrun0,G,hi.Jw (Ext.refl _ _ _) hi.base rfl o.dst hdst rfl (Ba hi hkd hy hp rfl) (fun _ _=>trivial)⟩
 |empt=>
  simp only[sem,Cu] at hs;cases hs;rw[hA _ rfl];exact .inl ⟨_,w,hrun0,G,hi.Jw (Ext.refl _ _ _) hi.base rfl o.dst hdst rfl (Ba hi hkd hy hp rfl) (fun _ _=>trivial)⟩
 |arr id gen off len size=>
  simp only[sem,Cu] at hs
  split at hs
  ·rename_i es hes
   split at hs
   ·rename_i hfl;cases hs;rw[hA _ rfl];obtain⟨G',hi',hrep⟩:=Q3 hi hes hfl;exact .inl ⟨_,w,hrun0,G',hi'.Jw (Ext.refl _ _ _) hi'.base rfl o.dst hdst rfl (.one (.inl (hrep _ (Ba hi hkd hy hp rfl)))) (fun _ _=>trivial)⟩
   ·cases hs
  ·cases hs
 |_=>simp[sem,Cu] at hs
theorem lD(hi:Inv cx G a w A σ)(hkd:∀t,cx.kd t=fi.kind t)(hnt:cx.nt=fi.nt){o:Oper}{t e:TypeId}{l c:Operand}{d:Nat}(ho:o.op=.makeSlice t l c)(hod:o.dst=some d)
  (ht:P.underlying t=some (.slice e)) {it:TypeInfo} (hit:P.info? e=some it) {z:PV} (hz:EQ P e=some z) (hs0:0<it.size) (hby:it.bytes≤4096) (hzl:z.cells.length=it.size)
  {az:List Co} (hc:Am fi [l,c]=some az) (hd:CF fi d=true) (hrun:BV pur call { dst:=some d,k:=.w (.mks it.size z),args:=az } A σ=some (A',σ')):Gives P cx o a w A' σ':=by
 obtain⟨vs,rs,he,hs,hA,_⟩:=GX hrun;obtain⟨y,zs,rfl,hy,hz'⟩:=AO hc;obtain⟨y2,zs,rfl,hy2,hz'⟩:=AO hz';cases hz';obtain⟨p,qs,rfl,hp,hq⟩:=Aq he;obtain⟨p2,qs,rfl,hp2,hq⟩:=Aq hq;cases hq;have hdv:=Eo hkd hnt hd;simp only[sem] at hs;cases p with
 |int k1 n=>cases p2 with
  |int k2 m=>
   simp only[Cu] at hs
   split at hs
   case isFalse=>cases hs
   rename_i hcc;obtain⟨rfl,h0,hmax,_,_⟩:=hcc;cases hs;rw[hA rfl];have e1:=(Ba hi hkd hy hp rfl).Da;have e2:=(Ba hi hkd hy2 hp2 rfl).Da;unfold EQ at hz;rw[hit] at hz;obtain⟨zv,hzv,hzp⟩:=AP.1 hz;have hzr:Rep G.I w zv z:=EO hzp;obtain⟨r1,r2⟩:=Fu hzr;have hmx:(Cr:Int)=4294967296:=rfl
   have hbb:(it.bytes:Int) * n≤281474976710656:=by
    have h1:(it.bytes:Int) * n≤4096 * n:=Int.mul_le_mul_of_nonneg_right (by omega) h0
    omega
   have hmk:=run_make (P:=P) w t e it zv ht hit hzv k1 k2 n n h0 (Int.le_refl _) hbb (by omega)
   have hr:(execOp a.eval o).run P w=.ok (.value (.slice (some ⟨w.heap.size,0,none⟩) n.toNat n.toNat)) (w.alloc (.cells (madeCells zv.cells (n.toNat * it.size)) e)):=by
    simp only[execOp,ho,e1,e2,Sem.run_bind,hmk,Result.andThen_ok];rfl
   refine Nc hi hdv hod (Ext.refl _ _ _) hi.base hs0 (Bd _) (size_madeCells _ _) (by simp) (fun i q hq=>?_) hr
   rw[Cm] at hq
   split at hq
   case isFalse=>cases hq
   rename_i hin;cases hq;refine⟨hzl,fun j u hu=>.one (.inl ?_)⟩
   have hj:j<it.size:=by rw[←hzl];exact(Ab.1 hu).1
   have hlt:0+i * it.size+j<n.toNat * it.size:=by
    have:(i+1) * it.size≤n.toNat * it.size:=Br _ (by omega)
    rw[CG] at this;omega
   have:=r2 j u hu
   have hg:(madeCells zv.cells (n.toNat * it.size)).getD (0+i * it.size+j) undef=zv.cells.getD j undef:=by
    have hmod:(0+i * it.size+j) % zv.cells.size=j:=by
     rw[r1,hzl,Bb,Nat.add_comm,EA,ER hj]
    have hjs:j<zv.cells.size:=by rw[r1,hzl];exact hj
    rw[Ah,Ah];simp only[madeCells,Eu,Array.getElem?_range,hlt,if_true,AB,hmod]
    simp[hjs]
   rw[hg];exact this
  |_=>simp[Cu] at hs
 |_=>simp[Cu] at hs
theorem NR(w:World)(t tx ty e:TypeId)(i:TypeInfo)(z:Value)(ht:P.underlying t=some (.slice e)){k':IntKind}(hx:P.underlying tx=some (.int k'))(hi:P.info? e=some i)(hz:i.zero=some z)(k:IntKind)(n:Nat)(hn:0<n)(hmax:n≤Cr)(hby:i.bytes≤4096)(hs0:0<i.size):
  (Builtin.append_ #[t,tx] ty #[.slice none 0 0,.int k n]).run P w =
   .ok (.slice (some ⟨w.heap.size,0,none⟩) n (grownCap w n 0 e)) (w.drew.alloc (.cells (Builtin.zeroCells z.cells n++Builtin.zeroCells z.cells (grownCap w n 0 e - n)) e)):=by
 unfold Cr at hmax;have hw:IntKind.i64.wrap (n:Int)=n:=by rw[IntKind.wrap_i64];omega
 have h1:¬((n:Int) < 0):=by omega
 have hbb:n * i.bytes≤4294967296 * 4096:=Nat.mul_le_mul hmax hby
 have h2:¬(281474976710656<(n:Int) * i.bytes):=by
  rw[←Int.natCast_mul];omega
 have h3:¬(9223372036854775807<(n:Int)):=by omega
 have h5:¬(281474976710656<Builtin.nextslicecap n 0 * i.bytes):=by
  have:=IZ (old:=0) hn (by unfold Cr;exact hmax) hby
  omega
 have h6:n≠0:=by omega
 have h7:i.size≠0:=by omega
 have h8:¬(n≤0):=by omega
 have h9:¬(n=0∨i.size=0):=by omega
 simp[Builtin.append_,run_underlying ht,run_underlying hx,sizeOf,typeInfo,zeroValue,hi,hz,asInt,asIntOf,hw,h1,h2,h3,h5,h6,h7,Question.forced,run_firstCells_none,newRow,grownCap];intro hbad;have:=Nat.mul_pos hn hs0;omega
theorem dM(hi:Inv cx G a w A σ)(hkd:∀t,cx.kd t=fi.kind t)(hnt:cx.nt=fi.nt){o:Oper}{c:Call}(ho:o.op=.call c)(hb:c.callee=.builtin .append)
  {sT xT e:TypeId} {d:Nat} {y1 y:Operand} (hargs:c.args=#[y1,y]) (htys:c.argTypes=#[sT,xT]) (hod:o.dst=some d)
  (hsT:P.underlying sT=some (.slice e)) {k':IntKind} (hxT:P.underlying xT=some (.int k')) {it:TypeInfo} (hit:P.info? e=some it) {z:PV} (hz:EQ P e=some z)
  (hs0:0<it.size) (hby:it.bytes≤4096) (hzl:z.cells.length=it.size)
  {az:List Co} (hc:Am fi [y1,y]=some az) (hd:CF fi d=true)
  (hrun:BV pur call { dst:=some d,k:=.w (.appZ it.size z),args:=az } A σ=some (A',σ')):Gives P cx o a w A' σ':=by
 obtain⟨vs,rs,he,hs,hA,_⟩:=GX hrun;obtain⟨z1,zs,rfl,hy1,hz1⟩:=AO hc;obtain⟨z2,zs,rfl,hy2,hz1⟩:=AO hz1;cases hz1;obtain⟨s,qs,rfl,hp,hq⟩:=Aq he;obtain⟨x,qs,rfl,hp2,hq⟩:=Aq hq;cases hq;have hdv:=Eo hkd hnt hd;simp only[sem] at hs;cases s with
 |nils=>cases x with
  |int k n=>
   simp only[Cu] at hs
   split at hs
   case isFalse=>cases hs
   rename_i hcc;obtain⟨h0,hmax,_⟩:=hcc;cases hs;rw[hA rfl];have e1:=(Ba hi hkd hy1 hp rfl).FK;have e2:=(Ba hi hkd hy2 hp2 rfl).Da;unfold EQ at hz;rw[hit] at hz;obtain⟨zv,hzv,hzp⟩:=AP.1 hz;have hzr:Rep G.I w zv z:=EO hzp;obtain⟨r1,r2⟩:=Fu hzr;obtain⟨consts,hrun'⟩:=EZ (P:=P) (w:=w) (a:=a) ho hb;rw[hargs,htys] at hrun';have hev:(#[y1,y].map a.eval)=#[a.eval y1,a.eval y]:=by simp
   rw[hev,e1,e2] at hrun';have hnn:((n.toNat:Nat):Int)=n:=by omega
   have hmk:=NR (P:=P) w sT xT o.type e it zv hsT hxT hit hzv k n.toNat (by omega) (by omega) hby hs0
   rw[hnn] at hmk
   have hfin:∀{v:Value} {w':World},(Builtin.append_ #[sT,xT] o.type #[.slice none 0 0,.int k n]).run P w=.ok v w'→(execOp a.eval o).run P w=.ok (.value v) w':=by
    intro v w' h;rw[hrun'];simp only[builtin,Sem.run_bind,h,Result.andThen_ok,Sem.run_pure]
   have hr:=hfin hmk;have hcap:n.toNat≤grownCap w n.toNat 0 e:=grownCap_ge ..;have hzs:zv.cells.size=it.size:=by rw[r1,hzl]
   refine Nc hi hdv hod (I6 (G:=G) (w:=w) (fun _=>False)) (FQ hi.base) hs0 hcap ?_ (by simp) (fun i q hq=>?_) hr
   ·simp only[EF,Builtin.zeroCells,Array.size_map,ES,hzs];rw[←BS];congr 1;omega
   ·rw[Cm] at hq
    split at hq
    case isFalse=>cases hq
    rename_i hin;cases hq;refine⟨hzl,fun j u hu=>.one (.inl ?_)⟩
    have hj:j<it.size:=by rw[←hzl];exact(Ab.1 hu).1
    have hlt:0+i * it.size+j<n.toNat * it.size:=by
     have:(i+1) * it.size≤n.toNat * it.size:=Br _ (by omega)
     rw[CG] at this;omega
    have:=r2 j u hu
    have hg:(Builtin.zeroCells zv.cells n.toNat++Builtin.zeroCells zv.cells (grownCap w n.toNat 0 e - n.toNat)).getD (0+i * it.size+j) undef=zv.cells.getD j undef:=by
     have hmod:(0+i * it.size+j) % zv.cells.size=j:=by
      rw[hzs,Bb,Nat.add_comm,EA,ER hj]
     have hjs:j<zv.cells.size:=by rw[hzs];exact hj
     have hlt2:0+i * it.size+j<n.toNat * zv.cells.size:=by rw[hzs];exact hlt
     rw[Ah,Ah,Dw (by simpa [Builtin.zeroCells] using hlt2)]
     simp only[Builtin.zeroCells,Eu,Array.getElem?_range,hlt2,if_true,AB,hmod]
     simp[hjs]
    rw[hg];exact this
  |_=>simp[Cu] at hs
 |_=>simp[Cu] at hs
theorem mh(hi:Inv cx G a w A σ)(hkd:∀t,cx.kd t=fi.kind t)(hnt:cx.nt=fi.nt){o:Oper}{t e:TypeId}(ho:o.op=.buildSlice t 0 #[])
  (ht:P.underlying t=some (.slice e)) {size:Nat} {ag:Bool} (hsz:Cf P e=some (size,ag))
  (hd:Bt fi o.dst=true) (hrun:BV pur call { dst:=o.dst,k:=.p .bse,args:=[] } A σ=some (A',σ')):Gives P cx o a w A' σ':=by
 refine UG hi (DK hkd hnt hd) hrun fun vs rs he hs=>?_
 cases he;cases hs;have hext:=EH (fun _=>False) hi.base (.cells #[] e) (fun _=>False) (none:Option Tag)
 refine⟨_,.slice (some ⟨w.heap.size,0,none⟩) 0 0,G.Jd w.heap.size (fun _=>False) none,w.alloc (.cells #[] e),rfl,rfl,?_,hext,Ep hi.base _ _ _,rfl,.one (.inl .empt),fun _ _=>trivial⟩
 simp only[execOp,ho,Instr.buildSlice,Sem.run_bind,underlying,run_program,ht,Result.andThen_ok,Sem.run_pure,run_sizeOf hsz,newRow,run_newObj];have hz0:(Array.map (fun _=>(default:Value)) (Array.range 0))=#[]:=by apply Array.eq_empty_of_size_eq_zero;simp
 simp[Instr.fill,run_newObj];rw[hz0]
theorem MQ(op:BinOp)(t:TypeId)(x y:Operand)(ad:Option Addr)(l c:Nat):(eqGuard op t x y (.slice ad l c) (.slice none 0 0)).run P w=.ok () w:=by
 cases op<;>rfl
theorem OZ{t e:TypeId}(ht:P.underlying t=some (.slice e))(ad:Option Addr)(l c:Nat):(Op.equal t (.slice ad l c) (.slice none 0 0)).run P w=.ok ad.isNone w:=by
 show(Op.equalIn (9999+1) t _ _).run P w=_;generalize 9999=d;cases ad<;>simp[Op.equalIn,underlying,ht]
theorem Vh(hi:Inv cx G a w A σ)(hkd:∀t,cx.kd t=fi.kind t)(hnt:cx.nt=fi.nt){o:Oper}{ne:Bool}{op:BinOp}(hop:op=if ne then .neq else .eql){t yt e:TypeId}{x y:Operand}(ho:o.op=.binOp op t x y yt)(ht:P.underlying t=some (.slice e))
  {az:List Co} (hc:Am fi [x,y]=some az) (hd:Bt fi o.dst=true) (hrun:BV pur call { dst:=o.dst,k:=.p (.snil ne),args:=az } A σ=some (A',σ')):Gives P cx o a w A' σ':=by
 refine FT hi hkd hnt hd hrun fun vs rs he hs=>?_
 obtain⟨y1,zs,rfl,hy1,hz⟩:=AO hc;obtain⟨y2,zs,rfl,hy2,hz⟩:=AO hz;cases hz;obtain⟨p1,qs,rfl,hp1,hq⟩:=Aq he;obtain⟨p2,qs,rfl,hp2,hq⟩:=Aq hq;cases hq;cases p2 with
 |nils=>
  have e2:=(Ba hi hkd hy2 hp2 rfl).FK
  have key:∀(ad:Option Addr) (l c:Nat) (b:Bool),a.eval x=.slice ad l c→ad.isNone=b→(execOp a.eval o).run P w=.ok (.value (.bool (b != ne))) w:=by
   rintro ad l c b e1 rfl
   have hg:=MQ (P:=P) (w:=w) op t x y ad l c;have hq:=OZ (P:=P) (w:=w) ht ad l c
   have hb:(Go.binOp op t (.slice ad l c) (.slice none 0 0)).run P w=.ok (.bool (ad.isNone != ne)) w:=by
    cases ne with
    |true=>
     rw[if_pos rfl] at hop;subst hop;rw[binOp_neq hq rfl];cases ad<;>rfl
    |false=>
     rw[if_neg (by simp)] at hop
     subst hop;rw[binOp_eql hq rfl];cases ad<;>rfl
   simp[execOp,ho,e1,e2,hg,hb]
  cases p1 with
  |nils=>
   cases hs;have e1:=(Ba hi hkd hy1 hp1 rfl).FK;have:=key _ _ _ true e1 rfl;exact⟨_,_,rfl,rfl,this,by cases ne<;>exact .one (.inl (.bool _)),fun _=>trivial⟩
  |slice own sz es=>
   cases hs;obtain⟨ad,len,cap,cv,e1,_⟩:=(Ba hi hkd hy1 hp1 rfl).Gb;have:=key _ _ _ false e1 rfl;exact⟨_,_,rfl,rfl,this,by cases ne<;>exact .one (.inl (.bool _)),fun _=>trivial⟩
  |arr id gen off len sz=>
   cases hs;obtain⟨b,base,n,cap,b',o',_,_,_,_,e1⟩:=(Ba hi hkd hy1 hp1 rfl).Gw;have:=key _ _ _ false e1 rfl;exact⟨_,_,rfl,rfl,this,by cases ne<;>exact .one (.inl (.bool _)),fun _=>trivial⟩
  |empt=>
   cases hs;obtain⟨ad,e1⟩:=(Ba hi hkd hy1 hp1 rfl).Ic;have:=key _ _ _ false e1 rfl;exact⟨_,_,rfl,rfl,this,by cases ne<;>exact .one (.inl (.bool _)),fun _=>trivial⟩
  |_=>simp[AJ] at hs
 |_=>simp[AJ] at hs
theorem lM(hi:Inv cx G a w A σ)(hkd:∀t,cx.kd t=fi.kind t)(hnt:cx.nt=fi.nt){o:Oper}{t:TypeId}{s d:Nat}(ho:o.op=.load t (.tmp s))(hod:o.dst=some d)(hk:cx.kd s=.box){n k:Nat}(hn:Cf P t=some (n,true))
  (hd:CF fi d=true) (hrun:BV pur call { dst:=some d,k:=.w (.ldz n k),args:=[.slot s],ex:=[s] } A σ=some (A',σ')):Gives P cx o a w A' σ':=by
 obtain⟨vs,rs,he,hs,hA,_⟩:=GX hrun;obtain⟨c,qs,rfl,hp,hq⟩:=Aq he;cases hq;have hdv:=Eo hkd hnt hd;have hne:d≠s:=by rintro rfl;rw[hk] at hdv;simp[SK.val] at hdv
 obtain⟨hg,_⟩:=Du hp;simp only[sem] at hs
 have hsl:s<A.length:=by
  unfold Frm.get at hg;cases h:A[s]? with
  |none=>rw[h] at hg;cases hg
  |some _=>exact(Ab.1 h).1
 have key:∀{G':Gh} {σ1:Sto} {cs':List PV} {v:PV},Inv cx G' a w (A.set s (some (.agg cs'))) σ1→sub (.agg cs') 0 n true=some v→rs=[some v.Ag,some (.agg cs')]→σ'=σ1→Gives P cx o a w A' σ':=by
  intro G' σ1 cs' v hi' hv e1 e2;subst e1 e2;have hA':=hA rfl;have hvB:Sa (.agg cs') 0 n true=some v:=by unfold Sa;rw[hv]
  have hgs:Frm.get (A.set s (some (PV.agg cs'))) s=some (.agg cs'):=by rw[CY,if_pos ⟨rfl,hsl⟩]
  refine TS (pur:=pur) (call:=call) hi' hkd hnt ho hk hn (by rw[hod];exact hd) ?_
  rw[hod];simp only[BV,BJ,hgs,sem,AJ,hvB,AB,AOp.wr,Option.toList,BD,De,BG,if_true,AR,CS];rw[hA'];simp only[AOp.wr,Option.toList,BG,AR,CS,CB,BK];rw[List.set_comm _ _ (fun e=>hne e)]
 have hbox:=hi.slot s c hg;cases c with
 |agg cs=>
  simp only[Cu] at hs
  split at hs
  ·rename_i id gen off len size hx
   split at hs
   case h_2=>cases hs
   rename_i es hes
   split at hs
   case isFalse=>cases hs
   rename_i hfl;obtain⟨v,hv,e⟩:=Ac.1 hs;cases e;obtain⟨G',hi',hrep⟩:=Q3 hi hes hfl;refine key (hi'.reset ?_) hv rfl rfl
   obtain⟨b,hb,hcell⟩:=(DJ hk).1 hbox;obtain⟨b',hb',hcell'⟩:=(DJ hk).1 (hi'.slot s _ hg);rw[hb] at hb';cases hb';refine(DJ hk).2 ⟨b,hb,?_⟩
   obtain⟨c1,c2,cells,elem,c3,c4,c5⟩:=hcell';obtain⟨_,_,cells2,elem2,d3,d4,d5⟩:=hcell;rw[c3] at d3;cases d3;refine⟨c1,c2,cells,elem,c3,by rw[c4];simp[PV.cells],fun j p hp=>?_⟩
   simp only[PV.cells] at hp;rw[BP] at hp
   split at hp
   ·rename_i e;subst e
    split at hp
    ·cases hp;exact .inl ⟨.one (.inl (hrep _ ((d5 _ _ hx).rep (by simp)).1)),trivial⟩
    ·cases hp
   ·exact c5 j p hp
  ·obtain⟨v,hv,e⟩:=Ac.1 hs;cases e;exact key (hi.reset hbox) hv rfl rfl
 |_=>simp[Cu] at hs
theorem lV(hi:Inv cx G a w A σ)(hkd:∀t,cx.kd t=fi.kind t)(hnt:cx.nt=fi.nt){o:Oper}{t:TypeId}{x:Operand}{f:Nat}(ho:o.op=.field t x f)
  {fs:Array Field} {fl:Field} (hs':P.underlying t=some (.struct fs)) (hf:fs[f]?=some fl) {n:Nat} {ag:Bool} (hn:Cf P fl.type=some (n,ag))
  {az:List Co} (hc:Am fi [x]=some az) (hd:Bt fi o.dst=true) (hrun:BV pur call { dst:=o.dst,k:=.p (.fld fl.offset n ag),args:=az } A σ=some (A',σ')):Gives P cx o a w A' σ':=by
 refine FT hi hkd hnt hd hrun fun vs rs he hs=>?_
 obtain⟨y,zs,rfl,hy,hz⟩:=AO hc;cases hz;obtain⟨p,qs,rfl,hp,hq⟩:=Aq he;cases hq;cases p with
 |agg ps=>
  obtain⟨cs,hv,hsz,hr⟩:=(Ba hi hkd hy hp rfl).Pq;simp only[AJ] at hs;obtain⟨v,hsub,e⟩:=Ac.1 hs;cases e;have hsc:=Lp hsub;have hfit:=Wt hsub;cases ag with
  |true=>
   cases v with
   |agg qs=>
    simp[fits] at hfit;refine⟨_,.agg (cs.extract fl.offset (fl.offset+n)),rfl,rfl,?_,?_,fun _=>Cg (.agg qs)⟩
    ·simp[execOp,ho,Instr.field,underlying,hs',hf,hv,asAgg,part,GJ hn,run_sizeOf hn]
    ·have hle:fl.offset+n≤ps.length:=by
      unfold sub at hsub;dsimp only at hsub
      split at hsub
      ·rename_i h;exact h.1
      ·cases hsub
     refine(Bq.one (.inl (.agg (by simp[hfit];omega) fun i p hp=>?_))).Ag
     have hlt:=(Ab.1 hp).1;have:=hr _ _ (hsc i p hp)
     have e:(cs.extract fl.offset (fl.offset+n)).getD i undef=cs.getD (fl.offset+i) undef:=by
      rw[Ah,Array.getElem?_extract,if_pos (by omega),Ah]
     rw[e];exact this
   |_=>simp[fits] at hfit
  |false=>
   have hvc:v.cells=[v]:=by cases v<;>first | rfl | simp[fits] at hfit
   have h0:=hsc 0 v (by rw[hvc];rfl)
   have hlt:=(Ab.1 h0).1;have hrep:=hr _ _ h0;simp only[PV.cells,Nat.add_zero] at hlt hrep;refine⟨_,cs.getD fl.offset undef,rfl,by rw[C8];exact Ql hrep,?_,(Bq.one (.inl hrep)).Ag,fun _=>Cg v⟩
   have hcs:fl.offset<cs.size:=by omega
   simp[execOp,ho,Instr.field,underlying,hs',hf,hv,asAgg,part,GJ hn,hcs,Array.getD]
 |_=>simp[AJ] at hs
theorem UK(w:World)(b k:Nat):JV b w (w.freeze ⟨b,k,none⟩ 1):=by
 unfold World.freeze;rw[if_neg (by decide)]
 exact⟨fun j hj=>by simp[Cz,Ne.symm hj],by simp,rfl,rfl,rfl⟩
theorem UJ{b k:Nat}{cs:Array Value}{elem:TypeId}{fz:Nat×Nat}(h:w.heap[b]?=some (.cells cs elem fz)):∃fz',(w.freeze ⟨b,k,none⟩ 1).heap[b]?=some (.cells cs elem fz'):=by
 unfold World.freeze;rw[if_neg (by decide)]
 obtain⟨lo,hi⟩:=fz;refine⟨if lo==hi then(k,k+1) else(min lo k,max hi (k+1)),?_⟩
 simp only[Cz,if_true,h,AB]
theorem l7(hi:Inv cx G a w A σ)(hkd:∀t,cx.kd t=fi.kind t)(hnt:cx.nt=fi.nt){o:Oper}{s t e e':TypeId}{u d:Nat}(ho:o.op=.convert s t (.tmp u))(hst:s=t)(hod:o.dst=some d)
  (hs:P.underlying s=some (.slice e')) (ht:P.underlying t=some (.slice e)) (he:P.underlying e=some (.int .u8))
  {az:List Co} (hc:Am fi [.tmp u]=some az) (hd:CF fi d=true) (hu:CF fi u=true) (hne:d≠u)
  (hrun:BV pur call { dst:=some d,k:=.p .cvi,args:=az,ex:=[u] } A σ=some (A',σ')):Gives P cx o a w A' σ':=by
 subst hst;obtain⟨vs,rs,hea,hsem,rfl,hA⟩:=eQ hrun;obtain⟨y,zs,rfl,hy,hz⟩:=AO hc;cases hz;obtain⟨p,qs,rfl,hp,hq⟩:=Aq hea;cases hq
 have hyy:y=.slot u:=by
  simp only[EM] at hy
  split at hy<;>first | (split at hy<;>first | (cases hy;rfl) | cases hy) | cases hy
 subst hyy;cases p with
 |slice own sz es=>
  cases own with
  |false=>simp[AJ] at hsem
  |true=>
   simp only[AJ] at hsem
   split at hsem
   case isFalse=>cases hsem
   rename_i hsz;subst hsz;cases hsem;rw[hA _ _ rfl];have huv:=Eo hkd hnt hu;have hdv:=Eo hkd hnt hd;obtain⟨hrep,how⟩:=Kv hi huv.2 hp rfl;obtain⟨b,off,cap,cs,elem,ev,hω,hIn,hIt,hheap,hcs,h0,hle⟩:=how
   let w':=w.freeze ⟨b,cs.size,none⟩ 1
   let G':=G.shut b fun _=>False
   have hob:=UK w b cs.size
   have hcell:∀j,w'.cell? ⟨b,j,none⟩=w.cell? ⟨b,j,none⟩:=by
    intro j;obtain⟨fz',hf⟩:=UJ (k:=cs.size) hheap;show World.cell? (w.freeze _ _) _=_;simp only[World.cell?,hf,hheap]
   have hsame:Same G.I w w':=by
    refine⟨fun b' j h=>?_,fun b' h=>hob.other _ (fun e=>hIn (e▸h))⟩
    by_cases hb:b'=b
    ·subst hb;exact hcell j
    ·exact cell_of_heap (hob.other _ hb)
   have hext:Ext (fun tg=>tg=.slot u none∨tg=.slot d none) G G' w w':=by
    refine⟨fun _ _ h=>.inl h,hsame,Bl.le_refl _,fun _ _ _ _=>rfl,fun b' tg h hX=>?_⟩
    have hbb:b'≠b:=by
     intro e;subst e;rw[hω] at h;cases h;exact hX (.inl rfl)
    refine⟨by simp[G',Gh.shut,hbb,h],hob.other _ hbb,fun x hx=>?_⟩
    rcases hx with hx | ⟨_,hx⟩
    ·exact hx
    ·exact hx.elim
   have hnK:=(hi.base.own b _ hω).2
   have hbase:Base cx G' w':=by
    have hb0:=LP hi.base hω (fun _=>False)
    refine⟨fun b' hK=>?_,hi.base.same.trans hsame hi.base.sub,hb0.sub,hb0.new,fun b' x h=>?_,fun b' tg h=>?_,hb0.Klt,?_,hb0.bl,?_,?_,?_⟩
    ·rw[hob.other _ (fun e=>hnK (e▸hK))];exact hb0.keep b' hK
    ·rw[hob.size];exact hb0.lt b' x h
    ·rw[hob.size];exact hb0.own b' tg h
    ·rw[hob.size];exact hb0.grow
    ·rw[hob.os];exact hb0.os
    ·rw[hob.tape];exact hb0.tape
    ·rw[hob.output];exact hb0.output
   have hev:a.eval (.tmp u)=at' a u:=rfl
   have hrun':(execOp a.eval o).run P w=.ok (.value (at' a u)) w':=by
    have hsh:w.shape? b=some (elem,cs.size):=by simp[World.shape?,hheap]
    simp only[execOp,ho,hev,ev,convert,underlying];simp[hs,he,markStringish,hsh];rw[hs] at ht;cases ht;simp[he,markStringish,hsh];rfl
   refine .inl ⟨at' a u,w',hrun',G',?_⟩
   rw[hod];have hrep':=(hrep.mono hext.I hext.same hext.bl).Ag;exact hi.fe hdv huv hext hbase rfl rfl rfl hrep' (fun _=>trivial) (by rw[FH _ _ _ _ (fun e=>hne (Option.some.inj e))];exact hrep') (fun _ _=>trivial)
 |_=>simp[AJ] at hsem
end
end Go.Abs

namespace Go.Abs
open Go.RowKit
def FB(I:Imm)(bl:Bl)(w:World)(vs:List Value)(ps:List PV):Prop:=
 vs.length=ps.length∧∀(i:Nat) (p:PV),ps[i]?=some p→∃v,vs[i]?=some v∧Bq I bl w v p
theorem FB.append{I:Imm}{bl:Bl}{w:World}{vs ws:List Value}{ps qs:List PV}(h:FB I bl w vs ps)(k:FB I bl w ws qs):FB I bl w (vs++ws) (ps++qs):=by
 refine⟨by simp[h.1,k.1],fun i p hp=>?_⟩
 by_cases hi:i<ps.length
 ·rw[Ae hi] at hp;obtain⟨v,h1,h2⟩:=h.2 i p hp;exact⟨v,by rw[Ae (by rw[h.1];exact hi)];exact h1,h2⟩
 ·rw[Al (by omega)] at hp
  obtain⟨v,h1,h2⟩:=k.2 _ p hp;exact⟨v,by rw[Al (by rw[h.1];omega),h.1];exact h1,h2⟩
theorem FB.Ag{I:Imm}{bl:Bl}{w:World}{vs:List Value}{ps:List PV}(h:FB I bl w vs ps):FB I bl w vs (ps.map PV.Ag):=by
 refine⟨by simp[h.1],fun i p hp=>?_⟩
 rw[Af] at hp;obtain⟨q,hq,rfl⟩:=Ac.1 hp;obtain⟨v,h1,h2⟩:=h.2 i q hq;exact⟨v,h1,h2.Ag⟩
structure Pre(K:Nat→Prop)(G:Gh)(w:World)(σ:Sto):Prop where
 lt:∀b x,G.I b x→b<w.heap.size
 Klt:KOk K w
 own:∀b tag,G.ω b=some tag→b<w.heap.size∧¬K b
 obj:∀(id:Nat) (cs:List PV),σ[id]?=some cs→Gs G w id cs
 len:G.bl.l.length=σ.length
 abl:∀id g a,G.bl.ab id g=some a→id<σ.length
structure Aft(K:Nat→Prop)(G:Gh)(w:World)(σ':Sto)(G':Gh)(w':World):Prop where
 keep:∀b,K b→w'.heap[b]?=w.heap[b]?
 same:Same G.I w w'
 sub:∀b x,G.I b x→G'.I b x
 new:∀b x,G'.I b x→G.I b x∨¬K b
 lt:∀b x,G'.I b x→b<w'.heap.size
 own:∀b tag,G'.ω b=some tag→b<w'.heap.size∧¬K b
 grow:w.heap.size≤w'.heap.size
 bl:G.bl.le G'.bl
 os:w'.os=w.os
 tape:w'.tape=w.tape
 output:w'.output=w.output
 obj:∀(id:Nat) (cs:List PV),σ'[id]?=some cs→Gs G' w' id cs
 len:G'.bl.l.length=σ'.length
 abl:∀id g a,G'.bl.ab id g=some a→id<σ'.length
def HZ(P:Program)(f:FuncId):Prop:=∃fn,P.funcs[f]?=some fn∧(fn.name == "runtime.NumGoroutine")=false∧fn.body.isNone=false
def Jc(P:Program)(f:FuncId)(args:List PV)(σ:Sto)(r:PV)(σ':Sto):Prop:=
 HZ P f∧∀(n:Nat) (vs:Array Value) (w:World) (G:Gh) (K:Nat→Prop),FB G.I G.bl w vs.toList args→Pre K G w σ→
  CallsIn (FW none) n P f vs w fun e w'=>∃v G',e=.returned v∧Bq G'.I G'.bl w' v r∧Aft K G w σ' G' w'
def EX(P:Program)(call:Caller):Prop:=
 ∀f args σ r σ',(∀p∈args,p.Ag=p)→call f args σ=some (r,σ')→Jc P f args σ r σ'
theorem Me(p:PV):p.Ag.Ag=p.Ag:=by
 cases p with
 |agg cs=>
  simp only[PV.Ag,List.map_map,PV.agg.injEq];apply DI;intro x _;cases x<;>rfl
 |aggr cs=>
  simp only[PV.Ag,List.map_map,PV.aggr.injEq];apply DI;intro x _;cases x<;>rfl
 |_=>rfl
section
variable{P:Program}{pur:FuncId→Bool}{call:Caller}{fi:FI}{cx:Cx}{G:Gh}{a:Act}{w:World}{A A':Frm}{σ σ':Sto}
theorem Yj{ro ro':Option Nat}{n m:Nat}{f:FuncId}{vs:Array Value}{R:Ending→World→Prop}(h:CallsIn (FW ro) n P f vs w R):CallsIn (FW ro') m P f vs w R:=
 ⟨trivial,fun cs _=>h.2 cs (fun _ hd=>by cases hd)⟩
theorem Pv{ro:Option Nat}{n:Nat}{o:Oper}{c:Call}{K:Act→World→Prop}{Q:Exit→Act→World→Prop}(ho:o.op=.call c){x:Operand}(hcal:c.callee=.value x){f:FuncId}{fs cs:Array Value}(hx:a.eval x=.func (.func f) fs cs)
  (hent:HZ P f) (h:CallsIn (FW none) 0 P f (fs++c.args.map a.eval++cs) w fun e w'=>∃v,e=.returned v∧K (a.put o.dst v) w'):o.wpIn (FW ro) n P a w K Q:=by
 obtain⟨fn,hf,hname,hbody⟩:=hent;refine⟨fun _ _=>trivial,?_⟩
 rw[Oper.semAt_eq _ _ _ (by simp[ho])]
 have hrun:(execOp a.eval o).run P w=.ok (.enter f (fs++c.args.map a.eval++cs)) w:=by
  have h1:¬fn.name = "runtime.NumGoroutine" := by simpa using hname
  have h2:¬fn.body=none:=fun e=>by rw[e] at hbody;cases hbody
  simp[execOp,ho,resolve,hcal,hx,Deferred.ofValue,invoke,callFunc,hf,h1,h2]
 rw[hrun,Oper.uponIn_enter];refine⟨fun h=>by simp[FW] at h,(Yj h).mono fun e w'=>?_⟩
 rintro⟨v,rfl,hk⟩
 exact hk
theorem Gs.congr{G':Gh}{id:Nat}{cs:List PV}(hI:G'.I=G.I)(hω:∀b i j,G.ω b=some (.obj i j)→G'.ω b=some (.obj i j))(hbl:G'.bl=G.bl)(h:Gs G w id cs):Gs G' w id cs:=by
 obtain⟨b,h1,hh⟩:=h;refine⟨b,by rw[hbl];exact h1,?_⟩
 rcases hh with⟨h2,h3,cs',elem,h4,h5,h6⟩ | ⟨t,e,l,rfl,h2,h3,p,v,hp,h4,h5,h6⟩ | h | ⟨gen,size,es,rfl,b1,base,n,cs,elem,g1,g2,g3,g4,g5,g6,g7,g8,g9⟩ | ⟨d,z,ks,vs,rfl,m1,m2,m3,es,m4,m5,m6⟩ | ⟨mid,since,seen,rfl,m1,m2,m,m3,m4⟩
 rotate_left
 ·refine .inr (.inl ⟨t,e,l,rfl,hω _ _ _ h2,by rw[hI];exact h3,p,v,hp,h4,h5,fun g hg=>?_⟩)
  obtain⟨e1,e2,e3⟩:=h6 g hg;exact⟨e1,hω _ _ _ e2,by rw[hI];exact e3⟩
 ·exact .inr (.inr (.inl h))
 ·exact .inr (.inr (.inr (.inl ⟨gen,size,es,rfl,b1,base,n,cs,elem,by rw[hbl];exact g1,by rw[hbl];exact g2,hω _ _ _ g3,by rw[hI];exact g4,g5,g6,g7,g8,by rw[hI,hbl];exact g9⟩)))
 ·exact .inr (.inr (.inr (.inr (.inl ⟨d,z,ks,vs,rfl,hω _ _ _ m1,by rw[hI];exact m2,m3,es,m4,m5,by rw[hI,hbl];exact m6⟩))))
 ·exact .inr (.inr (.inr (.inr (.inr ⟨mid,since,seen,rfl,hω _ _ _ m1,by rw[hI];exact m2,m,by rw[hbl];exact m3,m4⟩))))
 refine .inl ⟨hω _ _ _ h2,by rw[hI];exact h3,cs',elem,h4,h5,fun j p hp=>?_⟩
 rcases h6 j p hp with⟨hr,ho⟩ | hself
 rotate_left
 ·exact .inr hself
 refine .inl ⟨by rw[hI,hbl];exact hr,?_⟩
 unfold Ed at ho ⊢;split
 ·rename_i size es;obtain⟨b',off,cap,cs2,elem2,e1,e2,e3,e4,e5,e6,e7,e8⟩:=ho;exact⟨b',off,cap,cs2,elem2,e1,hω _ _ _ e2,by rw[hI];exact e3,by rw[hI];exact e4,e5,e6,e7,e8⟩
 ·trivial
def Gh.Ux(G:Gh):Gh:=⟨G.I,fun b=>match G.ω b with | some (.obj i j)=>some (.obj i j) | _=>none,G.bl⟩
def Gh.QL(G:Gh)(w:World)(b:Nat):Prop:=b<w.heap.size∧∀i j,G.ω b≠some (.obj i j)
def Gh.back(G:Gh)(w:World)(G1:Gh):Gh:=⟨G1.I,fun b=>match G1.ω b with | some (.obj i j)=>some (.obj i j) | _=>if b<w.heap.size then(match G.ω b with | some (.slot t j)=>some (.slot t j) | _=>none) else none,G1.bl⟩
theorem VS{b i:Nat}{j:Option Nat}:G.Ux.ω b=some (.obj i j)↔G.ω b=some (.obj i j):=by
 simp only[Gh.Ux];split
 ·rename_i i' j' h;rw[h]
 ·rename_i h;constructor
  ·intro h';cases h'
  ·intro h';exact absurd h' (h i j)
theorem U2(hi:Inv cx G a w A σ){b:Nat}(h:cx.K b):G.QL w b:=
 ⟨Bo (hi.base.Klt b h) hi.base.grow,fun i j he=>(hi.base.own b _ he).2 h⟩
theorem Pb(hi:Inv cx G a w A σ){b:Nat}{cs:Array Value}(h:tabs b=some cs):cx.K b∧∃t f,w.heap[b]?=some (.cells cs t f):=by
 obtain⟨h1,t,f,h2⟩:=hi.base.Klt.tab b cs h;exact⟨h1,t,f,(hi.base.keep b h1).trans h2⟩
theorem fE(hi:Inv cx G a w A σ):Pre (G.QL w) G.Ux w σ:=by
 refine⟨hi.base.lt,⟨fun b h=>h.1,fun b o h=>⟨U2 hi (Pb hi h).1,(Pb hi h).2⟩⟩,fun b tag h=>?_,fun id cs h=>Gs.congr (G:=G) (G':=G.Ux) rfl (fun b i j h=>VS.2 h) rfl (hi.obj id cs h),hi.len,hi.abl⟩
 have:∃i j,tag=.obj i j:=by
  simp only[Gh.Ux] at h
  split at h
  ·cases h;exact⟨_,_,rfl⟩
  ·cases h
 obtain⟨i,j,rfl⟩:=this;rw[VS] at h;exact⟨(hi.base.own b _ h).1,fun hk=>hk.2 i j h⟩
theorem jN{G1:Gh}{b i:Nat}{j:Option Nat}(h:G1.ω b=some (.obj i j)):(G.back w G1).ω b=some (.obj i j):=by
 simp only[Gh.back,h]
theorem jB{G1:Gh}{w':World}{σ1:Sto}(ha:Aft (G.QL w) G.Ux w σ1 G1 w')(hi:Inv cx G a w A σ):Ext (fun tg=>∃i j,tg=.obj i j) G (G.back w G1) w w':=by
 refine⟨ha.sub,ha.same,ha.bl,fun id _ hX=>absurd ⟨id,none,rfl⟩ (hX none),fun b tag h hX=>?_⟩
 cases tag with
 |obj i j=>exact absurd ⟨i,j,rfl⟩ hX
 |slot t j=>
  have hK:G.QL w b:=⟨(hi.base.own b _ h).1,fun i j he=>by rw[h] at he;cases he⟩
  have hn:G1.ω b=none:=by
   cases hg:G1.ω b with
   |none=>rfl
   |some tag=>exact absurd hK (ha.own b tag hg).2
  refine⟨by simp only[Gh.back,hn,hK.1,if_true,h],ha.keep b hK,fun x hx=>?_⟩
  rcases ha.new b x hx with h' | h'
  ·exact h'
  ·exact absurd hK h'
theorem bg{G1:Gh}{w':World}{σ1:Sto}(ha:Aft (G.QL w) G.Ux w σ1 G1 w')(hi:Inv cx G a w A σ):Base cx (G.back w G1) w':=by
 refine⟨fun b h=>?_,hi.base.same.trans ha.same hi.base.sub,fun b x h=>ha.sub b x (hi.base.sub b x h),fun b x h=>?_,ha.lt,fun b tag h=>?_,hi.base.Klt,BR hi.base.grow ha.grow,hi.base.bl.trans ha.bl,ha.os.trans hi.base.os,ha.tape.trans hi.base.tape,ha.output.trans hi.base.output⟩
 ·rw[ha.keep b (U2 hi h)];exact hi.base.keep b h
 ·rcases ha.new b x h with h' | h'
  ·exact hi.base.new b x h'
  ·exact .inr fun hk=>h' (U2 hi hk)
 ·simp only[Gh.back] at h
  split at h
  ·rename_i i j hg;cases h;have:=ha.own b _ hg;exact⟨this.1,fun hk=>this.2 (U2 hi hk)⟩
  ·split at h
   ·rename_i hlt
    split at h
    ·rename_i t j hg;cases h;exact⟨Bo hlt ha.grow,(hi.base.own b _ hg).2⟩
    ·cases h
   ·cases h
theorem jl{G1:Gh}{w':World}{v:Value}{r:PV}(hi:Inv cx G a w A σ)(ha:Aft (G.QL w) G.Ux w σ' G1 w')(dst:Option Nat)(hdst:∀d,dst=some d→d<cx.nt∧(cx.kd d).val=true)
  (hr:Bq G1.I G1.bl w' v r):Inv cx (G.back w G1) (a.put dst v) w' (Gx A dst r.Ag) σ':=by
 have hvr:=hr.Ag;refine hi.step _ dst v (jB ha hi) (bg ha hi) (by cases dst<;>simp[Gx]) ?_ (fun id cs hc=>.inr (Gs.congr (G:=G1) (G':=G.back w G1) rfl (fun b i j h=>jN h) rfl (ha.obj id cs hc))) ha.len ha.abl
 intro t q hq;cases dst with
 |none=>exact .inl ⟨hq,by simp,fun j h=>(by obtain⟨_,_,h⟩:=h;cases h),fun _ _ _ _=>by simp,fun _ _=>⟨by simp,fun h=>by obtain⟨_,_,h⟩:=h;cases h⟩⟩
 |some d=>
  obtain⟨hd1,hd2⟩:=hdst d rfl;simp only[Gx,CY] at hq
  split at hq
  ·rename_i hc;cases hq;refine .inr ?_
   rw[hc.1,BL hd2 hvr.free,EN _ _ _ (by rw[hi.size];exact hd1)]
   exact⟨hvr,Cg r⟩
  ·rename_i hc;have hne:d≠t:=fun e=>hc ⟨e.symm,by have:=hi.room;omega⟩
   refine .inl ⟨hq,fun e=>hne (Option.some.inj e),fun j h=>(by obtain⟨_,_,h⟩:=h;cases h),fun d' off e hbx e'=>?_,fun m hm=>⟨fun e'=>?_,fun h=>by obtain⟨_,_,h⟩:=h;cases h⟩⟩
   ·cases e';rw[hbx] at hd2;simp[SK.val] at hd2
   ·cases e';obtain⟨keys,hk⟩:=cx.ents t d hm;rw[hk] at hd2;simp[SK.val] at hd2
def Gh.bare(G:Gh):Gh:=⟨G.I,fun _=>none,Bl.nil⟩
def Gh.after(G:Gh)(w:World)(G1:Gh):Gh:=⟨G1.I,fun b=>if b<w.heap.size then G.ω b else none,G.bl⟩
theorem fF(hi:Inv cx G a w A σ):Pre (fun b=>b<w.heap.size) G.bare w []:=
 ⟨hi.base.lt,⟨fun b h=>h,fun b o h=>⟨Bo (hi.base.Klt b (Pb hi h).1) hi.base.grow,(Pb hi h).2⟩⟩,fun b tag h=>(by cases h),fun id cs h=>(by simp at h),rfl,fun id g a h=>(by cases h)⟩
theorem aH{G1:Gh}{w':World}{v:Value}{r:PV}(hi:Inv cx G a w A σ)(ha:Aft (fun b=>b<w.heap.size) G.bare w σ' G1 w')(dst:Option Nat)(hdst:∀d,dst=some d→d<cx.nt∧(cx.kd d).val=true)
  (hr:Bq G1.I G1.bl w' v r) (hf:r.flat=true):Inv cx (G.after w G1) (a.put dst v) w' (Gx A dst r.Ag) σ:=by
 have hrep:=(hr.flat hf).Ag
 have hext:Ext (fun _=>False) G (G.after w G1) w w':=by
  refine⟨ha.sub,ha.same,Bl.le_refl _,fun _ _ _ _=>rfl,fun b tag h _=>?_⟩
  have hlt:=(hi.base.own b tag h).1;refine⟨by simp only[Gh.after,hlt,if_true,h],ha.keep b hlt,fun x hx=>?_⟩
  rcases ha.new b x hx with h' | h'
  ·exact h'
  ·exact absurd hlt h'
 have hbase:Base cx (G.after w G1) w':=by
  have hK:∀b,cx.K b→b<w.heap.size:=fun b h=>Bo (hi.base.Klt b h) hi.base.grow
  refine⟨fun b h=>?_,hi.base.same.trans ha.same hi.base.sub,fun b x h=>ha.sub b x (hi.base.sub b x h),fun b x h=>?_,ha.lt,fun b tag h=>?_,hi.base.Klt,BR hi.base.grow ha.grow,hi.base.bl,ha.os.trans hi.base.os,ha.tape.trans hi.base.tape,ha.output.trans hi.base.output⟩
  ·rw[ha.keep b (hK b h)];exact hi.base.keep b h
  ·rcases ha.new b x h with h' | h'
   ·exact hi.base.new b x h'
   ·exact .inr fun hk=>h' (hK b hk)
  ·simp only[Gh.after] at h
   split at h
   ·rename_i hlt;exact⟨Bo hlt ha.grow,(hi.base.own b tag h).2⟩
   ·cases h
 exact hi.Jw hext hbase rfl dst hdst (by rw[C8];exact hr.free) (.one (.inl hrep)) (fun _ _=>Cg r)
theorem JR(hi:Inv cx G a w A σ)(hkd:∀t,cx.kd t=fi.kind t){xs:Array Operand}{az:List Co}(hc:Am fi xs.toList=some az){ps:List PV}(he:BJ A az=some ps)(hf:ps.all PV.free=true):
  FB G.I G.bl w (xs.map a.eval).toList ps:=by
 obtain⟨hl,hr⟩:=NB hi hkd hc he (fun p hp=>Ao.1 hf p hp)
 refine⟨by simpa using hl,fun i p hp=>?_⟩
 have hlt:i<xs.size:=by have:=(Ab.1 hp).1;simp at hl;omega
 have hx:xs.toList[i]?=some xs[i]:=by rw[Au];exact Aw hlt
 exact⟨a.eval xs[i],by simp[hlt],hr i _ p hx hp⟩
theorem FB.bare{vs:List Value}{ps:List PV}(h:FB G.I G.bl w vs ps)(hf:ps.all PV.flat=true):FB G.I Bl.nil w vs ps:=
 ⟨h.1,fun i p hp=>let ⟨v,h1,h2⟩:=h.2 i p hp;⟨v,h1,.one (.inl (h2.flat (Ao.1 hf p (Az hp))))⟩⟩
theorem UL(p:PV):p.Ag.flat=p.flat:=by cases p<;>rfl
theorem M4(ps:List PV):∀p∈ps.map PV.Ag,p.Ag=p:=by
 intro p hp;obtain⟨q,_,rfl⟩:=Ch.1 hp;exact Me q
theorem bD{o:Oper}{k:AK}{az:List Co}{p:PV}(h1:([some p]:List (Option PV)).length=o.dst.toList.length+([]:List Nat).length→A'=CS A ({ dst:=o.dst,k:=k,args:=az }:AOp).wr ([some p]++([]:List Nat).map fun _=>none))
  (h2:([some p]:List (Option PV)).length≠o.dst.toList.length+([]:List Nat).length→A'=A∧o.dst=none):A'=Gx A o.dst p:=by
 cases hdd:o.dst with
 |none=>
  rw[hdd] at h2;exact(h2 (by simp)).1
 |some d=>
  rw[hdd] at h1;rw[h1 rfl];simp[AOp.wr,CS,Gx]
theorem Ol{ro:Option Nat}{n:Nat}{o:Oper}{c:Call}{K:Act→World→Prop}{Q:Exit→Act→World→Prop}(hS:EX P call)(hi:Inv cx G a w A σ)(ho:o.op=.call c){x:Operand}(hcal:c.callee=.value x){f:FuncId}{fs cs:Array Value}(hx:a.eval x=.func (.func f) fs cs)
  (hdst:∀d,o.dst=some d→d<cx.nt∧(cx.kd d).val=true) {ps:List PV} (hargs:FB G.I G.bl w (fs++c.args.map a.eval++cs).toList ps) {r:PV} {σ1:Sto}
  (hcall:call f (ps.map PV.Ag) σ=some (r,σ1)) (hk:∀a' w',Sim cx a' w' (Gx A o.dst r.Ag) σ1→Kept o.dst a a'→K a' w'):o.wpIn (FW ro) n P a w K Q:=by
 obtain⟨hent,hcl⟩:=hS f _ σ r σ1 (M4 ps) hcall;refine Pv ho hcal hx hent ((hcl 0 _ w G.Ux (G.QL w) hargs.Ag (fE hi)).mono ?_)
 rintro e w' ⟨v,G1,rfl,hr,ha⟩
 exact⟨v,rfl,hk _ _ ⟨_,jl hi ha o.dst hdst hr⟩ (KZ _ _ _)⟩
theorem I8{ro:Option Nat}{n:Nat}{o:Oper}{c:Call}{K:Act→World→Prop}{Q:Exit→Act→World→Prop}(hS:EX P call)(hi:Inv cx G a w A σ)(ho:o.op=.call c){x:Operand}(hcal:c.callee=.value x){f:FuncId}{fs cs:Array Value}(hx:a.eval x=.func (.func f) fs cs)
  (hdst:∀d,o.dst=some d→d<cx.nt∧(cx.kd d).val=true) {ps:List PV} (hargs:FB G.I G.bl w (fs++c.args.map a.eval++cs).toList ps) (hflat:(ps.map PV.Ag).all PV.flat=true) {r:PV} {σ1:Sto}
  (hcall:call f (ps.map PV.Ag) []=some (r,σ1)) (hrf:r.flat=true) (hk:∀a' w',Sim cx a' w' (Gx A o.dst r.Ag) σ→Kept o.dst a a'→K a' w'):o.wpIn (FW ro) n P a w K Q:=by
 obtain⟨hent,hcl⟩:=hS f _ [] r σ1 (M4 ps) hcall;refine Pv ho hcal hx hent ((hcl 0 _ w G.bare (fun b=>b<w.heap.size) (hargs.Ag.bare hflat) (fF hi)).mono ?_)
 rintro e w' ⟨v,G1,rfl,hr,ha⟩
 exact⟨v,rfl,hk _ _ ⟨_,aH hi ha o.dst hdst hr hrf⟩ (KZ _ _ _)⟩
theorem Iu{ps:List PV}(h:ps.all PV.flat=true):(ps.map PV.Ag).all PV.flat=true:=by
 rw[List.all_map];rw[Ao] at h ⊢;intro p hp;simpa [UL] using h p hp
theorem tY{ro:Option Nat}{n:Nat}{o:Oper}{c:Call}{K:Act→World→Prop}{Q:Exit→Act→World→Prop}(hS:EX P call)(hi:Inv cx G a w A σ)(hkd:∀t,cx.kd t=fi.kind t)(hnt:cx.nt=fi.nt)(ho:o.op=.call c){f:FuncId}(hcal:c.callee=.value (.func f))
  {az:List Co} (hc:Am fi c.args.toList=some az) (hd:Bt fi o.dst=true) (hrun:BV pur call { dst:=o.dst,k:=.c f,args:=az } A σ=some (A',σ'))
  (hk:∀a' w',Sim cx a' w' A' σ'→Kept o.dst a a'→K a' w'):o.wpIn (FW ro) n P a w K Q:=by
 obtain⟨ps,rs,he,hs,hA1,hA2⟩:=GX hrun;simp only[sem] at hs
 split at hs
 ·rename_i hf;simp only[Ak] at hf;obtain⟨⟨r,σ1⟩,hcall,hs⟩:=AP.1 hs;dsimp only at hs
  split at hs
  ·rename_i hrf;cases hs;have hA:=bD hA1 hA2;subst hA;refine I8 hS hi ho hcal (f:=f) (fs:=#[]) (cs:=#[]) rfl (DK hkd hnt hd) (ps:=ps) ?_ (Iu hf.2) hcall hrf hk
   simpa using JR hi hkd hc he hf.1
  ·cases hs
 ·cases hs
theorem dL{ro:Option Nat}{n:Nat}{o:Oper}{c:Call}{K:Act→World→Prop}{Q:Exit→Act→World→Prop}(hS:EX P call)(hi:Inv cx G a w A σ)(hkd:∀t,cx.kd t=fi.kind t)(hnt:cx.nt=fi.nt)(ho:o.op=.call c){f:FuncId}(hcal:c.callee=.value (.func f))
  {az:List Co} (hc:Am fi c.args.toList=some az) (hd:Bt fi o.dst=true) (hrun:BV pur call { dst:=o.dst,k:=.w (.call f),args:=az } A σ=some (A',σ'))
  (hk:∀a' w',Sim cx a' w' A' σ'→Kept o.dst a a'→K a' w'):o.wpIn (FW ro) n P a w K Q:=by
 obtain⟨ps,rs,he,hs,hA1,hA2⟩:=GX hrun;simp only[sem,Cu] at hs
 split at hs
 ·rename_i hf
  split at hs
  ·split at hs
   ·rename_i hflat;obtain⟨⟨r,σ1⟩,hcall,hs⟩:=AP.1 hs;dsimp only at hs
    split at hs
    ·rename_i hrf;cases hs;have hA:=bD hA1 hA2;subst hA;refine I8 hS hi ho hcal (f:=f) (fs:=#[]) (cs:=#[]) rfl (DK hkd hnt hd) (ps:=ps) ?_ (Iu hflat) hcall hrf hk
     simpa using JR hi hkd hc he hf
    ·cases hs
   ·cases hs
  ·obtain⟨⟨r,σ1⟩,hcall,hs⟩:=Ac.1 hs;cases hs;have hA:=bD hA1 hA2;subst hA;refine Ol hS hi ho hcal (f:=f) (fs:=#[]) (cs:=#[]) rfl (DK hkd hnt hd) (ps:=ps) ?_ hcall hk
   simpa using JR hi hkd hc he hf
 ·cases hs
theorem jo(ps:List PV){vs:List PV}{σ σ':Sto}(h:Q4 ps σ=some (vs,σ')){G:Gh}(hi:Inv cx G a w A σ):
  ∃G',Inv cx G' a w A σ'∧G'.bl=G.bl∧(∀b x,G.I b x→G'.I b x)∧vs.length=ps.length∧∀(i:Nat) (p q:PV),ps[i]?=some p→vs[i]?=some q→∀c,GG G.I G.bl w c p.D7→Rep G'.I w c q:=by
 have key:∀(ps vs:List PV) (σ σ':Sto),Q4 ps σ=some (vs,σ')→Q4 (ps.map PV.D7) σ=some (vs,σ'):=by
  intro ps
  induction ps with
  |nil=>intro vs σ σ' h;exact h
  |cons c cs ih=>
   intro vs σ σ' h;cases c with
   |arr id gen off len size=>
    simp only[Q4,AL,PV.D7] at h ⊢
    split at h
    ·rename_i es hes
     split at h
     ·rename_i hfl;obtain⟨⟨us,σ1⟩,h1,e⟩:=Ac.1 h;cases e;simp only[hfl,if_true,ih _ _ _ h1,AB]
     ·cases h
    ·cases h
   |_=>
    simp only[Q4,AL,PV.D7] at h ⊢
    split at h
    ·rename_i hf;obtain⟨⟨us,σ1⟩,h1,e⟩:=Ac.1 h;cases e
     first
      |(rw[if_pos hf,ih _ _ _ h1];rfl)
      |(rw[if_pos (show PV.flat (.slice false _ _)=true from rfl),ih _ _ _ h1];rfl)
    ·cases h
 obtain⟨G',i1,i2,i3,i4,i5⟩:=Og _ (key ps vs σ σ' h) hi;refine⟨G',i1,i2,i3,by rw[i4,Av],fun i p q hp hq c hc=>i5 i p.D7 q (by rw[Af,hp];rfl) hq c hc⟩
theorem ZJ{ro:Option Nat}{n:Nat}{o:Oper}{c:Call}{d:Nat}{K:Act→World→Prop}{Q:Exit→Act→World→Prop}(hS:EX P call)(hi:Inv cx G a w A σ)(hkd:∀t,cx.kd t=fi.kind t)(hnt:cx.nt=fi.nt)(ho:o.op=.call c){f:FuncId}(hcal:c.callee=.value (.func f))
  (hod:o.dst=some d) {az:List Co} (hc:Am fi c.args.toList=some az) (hd:Bt fi o.dst=true) (hrun:BV pur call { dst:=o.dst,k:=.w (.callz f),args:=az } A σ=some (A',σ'))
  (hk:∀a' w',Sim cx a' w' A' σ'→Kept o.dst a a'→K a' w'):o.wpIn (FW ro) n P a w K Q:=by
 obtain⟨ps,rs,he,hs,hA1,hA2⟩:=GX hrun;simp only[sem,Cu] at hs
 split at hs
 case isFalse=>cases hs
 rename_i hf;obtain⟨⟨r,σ1⟩,hcall,hs⟩:=AP.1 hs;obtain⟨⟨r',σ2⟩,hfz,hs⟩:=Ac.1 hs;cases hs;have hA:=bD hA1 hA2;subst hA;have hdp:=DK hkd hnt hd;refine Ol hS hi ho hcal (f:=f) (fs:=#[]) (cs:=#[]) rfl hdp (ps:=ps) (by simpa using JR hi hkd hc he hf) hcall (fun a' w' hsim hkept=>hk a' w' ?_ hkept)
 unfold rU at hfz;dsimp only at hfz hcall hsim
 split at hfz
 ·rename_i cs;obtain⟨⟨us,σ3⟩,h1,e⟩:=Ac.1 hfz;cases e;obtain⟨G1,hi1⟩:=hsim;obtain⟨G',hi',hbl,hI,hlen',hrep⟩:=jo cs h1 hi1;rw[hod] at hi1 hi' ⊢;obtain⟨hd1,hd2⟩:=hdp d hod;have hlen:d<A.length:=by have:=hi.room;omega
  have hg:Frm.get (Gx A (some d) (PV.aggr cs).Ag) d=some (.aggr (cs.map PV.D7)):=by
   simp only[Gx,CY,hlen,and_self,if_true];rfl
  have hsl:=((BL hd2 rfl).1 (hi1.slot d _ hg)).1;obtain⟨vcs,ev,hsz,hr⟩:=hsl.Le
  have:=hi'.reset (d:=d) (p:=.agg us) ((BL hd2 rfl).2 ⟨.one (.inl (by
   rw[ev];refine .agg (by rw[hsz,Av,hlen']) fun i q hq=>?_
   have hil:i<cs.length:=by rw[←hlen'];exact(Ab.1 hq).1
   exact hrep i _ q (Ad hil) hq _ (hr i _ (by rw[Af,Ad hil];rfl)))),trivial⟩)
  simp only[Gx,List.set_set] at this ⊢;exact⟨G',this⟩
 ·rename_i id gen off len size
  split at hfz
  case h_2=>cases hfz
  rename_i es hes
  split at hfz
  case isFalse=>cases hfz
  rename_i hfl;cases hfz;obtain⟨G1,hi1⟩:=hsim;obtain⟨G',hi',hrep⟩:=Q3 hi1 hes hfl;rw[hod] at hi1 hi' ⊢;obtain⟨hd1,hd2⟩:=hdp d hod;have hlen:d<A.length:=by have:=hi.room;omega
  have hg:Frm.get (Gx A (some d) (PV.arr id gen off len size).Ag) d=some (.arr id gen off len size):=by
   simp only[Gx,CY,hlen,and_self,if_true];rfl
  have hsl:=((BL hd2 rfl).1 (hi1.slot d _ hg)).1;have:=hi'.reset (d:=d) (p:=.slice false size es) ((BL hd2 rfl).2 ⟨.one (.inl (hrep _ hsl)),trivial⟩);simp only[Gx,List.set_set] at this ⊢;exact⟨G',this⟩
 ·cases hfz;exact hsim
theorem RO{fs:Array Value}{ps:List PV}(h1:fs.size=ps.length)(hf:∀(i:Nat) (p:PV),ps[i]?=some p→GG G.I G.bl w (fs.getD i undef) p):FB G.I G.bl w fs.toList ps:=by
 refine⟨by simpa using h1,fun i p hp=>?_⟩
 have hlt:i<fs.size:=by have:=(Ab.1 hp).1;omega
 exact⟨fs.getD i undef,by simp[Array.getD,hlt],.one (hf i p hp)⟩
theorem ZK{ro:Option Nat}{n:Nat}{o:Oper}{c:Call}{K:Act→World→Prop}{Q:Exit→Act→World→Prop}(hS:EX P call)(hi:Inv cx G a w A σ)(hkd:∀t,cx.kd t=fi.kind t)(hnt:cx.nt=fi.nt)(ho:o.op=.call c){x:Operand}(hcal:c.callee=.value x)
  {az:List Co} (hc:Am fi (x::c.args.toList)=some az) (hd:Bt fi o.dst=true) (hrun:BV pur call { dst:=o.dst,k:=.w .calld,args:=az } A σ=some (A',σ'))
  (hk:∀a' w',Sim cx a' w' A' σ'→Kept o.dst a a'→K a' w'):o.wpIn (FW ro) n P a w K Q:=by
 obtain⟨ps,rs,he,hs,hA1,hA2⟩:=GX hrun;obtain⟨y,zs,rfl,hy,hz⟩:=AO hc;obtain⟨p,qs,rfl,hp,hq⟩:=Aq he;simp only[sem] at hs;cases p with
 |func f first cap=>
  obtain⟨fs,cs,hx,h1,h2,h3,h4⟩:=(Ba hi hkd hy hp rfl).JL;simp only[Cu] at hs
  split at hs
  ·rename_i hf
   have hargs:FB G.I G.bl w (fs++c.args.map a.eval++cs).toList (first++qs++cap):=by
    rw[Array.toList_append,Array.toList_append];exact((RO h1 h3).append (JR hi hkd hz hq hf)).append (RO h2 h4)
   split at hs
   ·split at hs
    ·rename_i hflat;obtain⟨⟨r,σ1⟩,hcall,hs⟩:=AP.1 hs;dsimp only at hs
     split at hs
     ·rename_i hrf;cases hs;have hA:=bD hA1 hA2;subst hA;exact I8 hS hi ho hcal hx (DK hkd hnt hd) hargs hflat hcall hrf hk
     ·cases hs
    ·cases hs
   ·obtain⟨⟨r,σ1⟩,hcall,hs⟩:=Ac.1 hs;cases hs;have hA:=bD hA1 hA2;subst hA;exact Ol hS hi ho hcal hx (DK hkd hnt hd) hargs hcall hk
  ·cases hs
 |_=>simp[Cu] at hs
end
end Go.Abs
