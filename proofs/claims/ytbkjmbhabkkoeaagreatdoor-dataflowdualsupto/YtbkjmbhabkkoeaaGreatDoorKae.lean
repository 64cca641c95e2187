/- A part of the proof: A34 A27. -/
import Derived.Test.YtbkjmbhabkkoeaaGreatDoorKad

set_option linter.unusedVariables false
set_option linter.unusedSimpArgs false
namespace Go.Abs
open Go.RowKit
section
variable{P:Program}{pur:FuncId→Bool}{call:Caller}{fi:FI}{cx:Cx}{G:Gh}{a:Act}{w:World}{A A':Frm}{σ σ':Sto}
theorem Bu.D8{I:Imm}{bl:Bl}{v:Value}{p:PV}(h:Bu I bl w v p):Bu I bl w v p.D8:=by
 cases p with
 |slice own sz es=>exact h.Ag
 |_=>exact h
theorem VA(p:PV):p.Ag.cells=p.cells.map PV.D8:=by cases p<;>rfl
def KU(I:Imm)(bl:Bl)(w:World)(size:Nat)(cs:List Value)(es:List PV):Prop:=
 cs.length=es.length * size∧(∀(i:Nat) (e:PV),es[i]?=some e→e.cells.length=size)∧
 ∀(i:Nat) (e:PV) (j:Nat) (p:PV),es[i]?=some e→e.cells[j]?=some p→∃c,cs[i * size+j]?=some c∧Bu I bl w c p
theorem KU.jE{I:Imm}{bl:Bl}{size:Nat}{cs:List Value}{es:List PV}(h:Hd I w size cs es):KU I bl w size cs es:=
 ⟨h.1,h.2.1,fun i e j p he hp=>let ⟨c,h1,h2⟩:=h.2.2 i e j p he hp;⟨c,h1,.one (.inl h2)⟩⟩
theorem KU.mono{I I':Imm}{bl bl':Bl}{w w':World}{size:Nat}{cs:List Value}{es:List PV}(h:KU I bl w size cs es)(hI:∀b x,I b x→I' b x)(hs:Same I w w')(hb:bl.le bl'):KU I' bl' w' size cs es:=
 ⟨h.1,h.2.1,fun i e j p he hp=>let ⟨c,h1,h2⟩:=h.2.2 i e j p he hp;⟨c,h1,h2.mono hI hs hb⟩⟩
theorem KU.nil(I:Imm)(bl:Bl)(w:World)(size:Nat):KU I bl w size [] []:=⟨by simp,fun i e h=>by simp at h,fun i e j p h=>by simp at h⟩
theorem KU.append{I:Imm}{bl:Bl}{size:Nat}{cs ds:List Value}{es fs:List PV}(h:KU I bl w size cs es)(k:KU I bl w size ds fs):KU I bl w size (cs++ds) (es++fs):=by
 refine⟨by simp[h.1,k.1,BS],fun i e he=>?_,fun i e j p he hp=>?_⟩
 ·by_cases hi:i<es.length
  ·rw[Ae hi] at he;exact h.2.1 i e he
  ·rw[Al (by omega)] at he;exact k.2.1 _ e he
 ·by_cases hi:i<es.length
  ·rw[Ae hi] at he;obtain⟨c,h1,h2⟩:=h.2.2 i e j p he hp;refine⟨c,?_,h2⟩
   rw[Ae (Ab.1 h1).1];exact h1
  ·rw[Al (by omega)] at he
   obtain⟨c,h1,h2⟩:=k.2.2 _ e j p he hp;refine⟨c,?_,h2⟩
   have hge:es.length * size≤i * size:=Bv _ (by omega)
   rw[Al (by rw[h.1];omega),h.1]
   rw[Nat.sub_mul] at h1;rw[show i * size+j - es.length * size=i * size - es.length * size+j from by omega]
   exact h1
theorem KU.Ag{I:Imm}{bl:Bl}{size:Nat}{cs:List Value}{es:List PV}(h:KU I bl w size cs es):KU I bl w size cs (es.map PV.Ag):=by
 refine⟨by rw[Am];exact h.1,fun i e he=>?_,fun i e j p he hp=>?_⟩
 ·rw[Af] at he;obtain⟨e',he',rfl⟩:=Ac.1 he;rw[CP];exact h.2.1 i e' he'
 ·rw[Af] at he;obtain⟨e',he',rfl⟩:=Ac.1 he;rw[VA,Af] at hp;obtain⟨q,hq,rfl⟩:=Ac.1 hp;obtain⟨c,h1,h2⟩:=h.2.2 i e' j q he' hq;exact⟨c,h1,h2.D8⟩
theorem jv{I:Imm}{bl:Bl}{c:Value}{p:PV}(h:Bu I bl w c p)(hp:p.one=true):c.oneCell'=true:=by
 cases h with
 |one h=>
  rcases h with h | h
  ·exact Qj h hp
  ·cases h<;>rfl
 |func _ _ _ _=>rfl
 |tuple _ _=>cases hp
 |aggr _ _=>cases hp
theorem jo{I:Imm}{bl:Bl}{size:Nat}(hs0:0<size){cs:List Value}{es:List PV}(h:KU I bl w size cs es)(hones:es.all PV.ones=true):∀u∈cs,u.oneCell'=true:=by
 intro u hu;rw[Ao] at hones;obtain⟨k,hk⟩:=Bb.1 hu;have hkl:k<es.length * size:=by have:=(Ab.1 hk).1;rw[h.1] at this;exact this
 have hi:k / size<es.length:=(Ey hs0).2 hkl;have hj:k % size<size:=Nat.mod_lt _ hs0;have he:=Ad hi;have hcl:k % size<(es[k / size]).cells.length:=by rw[h.2.1 _ _ he];exact hj
 obtain⟨c,h1,h2⟩:=h.2.2 _ _ _ _ he (Ad hcl);rw[show k / size * size+k % size=k from by rw[Nat.mul_comm];exact Nat.div_add_mod k size,hk] at h1
 cases h1;exact jv h2 (Ao.1 (hones _ (AQ hi)) _ (AQ hcl))
theorem Kj{id gen size off len b base n:Nat}{es:List PV}{cs:Array Value}{elem:TypeId}(hs0:0<size)(hheap:w.heap[b]?=some (.cells cs elem (0,0)))(hn:base+es.length * size≤cs.size)
  (hall:∀(i:Nat) (e:PV),es[i]?=some e→e.cells.length=size∧∀(j:Nat) (p:PV),e.cells[j]?=some p→Bu G.I G.bl w (cs.getD (base+i * size+j) undef) p) (hl:off+len≤es.length) :
  ∃ds:List Value,KU G.I G.bl w size ds ((es.drop off).take len)∧∀(j:Nat) (v:Value),ds[j]?=some v→w.cell? ⟨b,base+off * size+j,none⟩=some v:=by
 have hlen:((es.drop off).take len).length=len:=by rw[Bj,CX];omega
 have hget:∀k,k<len * size→((List.range (len * size)).map fun k=>cs.getD (base+off * size+k) undef)[k]?=some (cs.getD (base+off * size+k) undef):=by
  intro k hk;rw[Af,Ck hk];rfl
 have hel:∀(i:Nat) (e:PV),((es.drop off).take len)[i]?=some e→i<len∧es[off+i]?=some e:=by
  intro i e he;rw[BQ] at he
  split at he
  ·rename_i hlt;rw[BN] at he;exact⟨hlt,he⟩
  ·cases he
 have hmul:(off+len) * size≤es.length * size:=Bv _ hl;rw[BS] at hmul;refine⟨(List.range (len * size)).map fun k=>cs.getD (base+off * size+k) undef,⟨by simp[hlen],fun i e he=>(hall _ _ (hel i e he).2).1,fun i e j p he hp=>?_⟩,fun k v hk=>?_⟩
 ·obtain⟨h1,h2⟩:=hel i e he;obtain⟨h3,h4⟩:=hall _ _ h2;have hj:j<size:=by rw[←h3];exact(Ab.1 hp).1
  have hlt:i * size+j<len * size:=by
   have:(i+1) * size≤len * size:=Bv _ (by omega)
   rw[CK] at this;omega
  refine⟨_,hget _ hlt,?_⟩
  have:=h4 j p hp;rw[BS] at this;rw[show base+off * size+(i * size+j)=base+(off * size+i * size)+j from by omega]
  exact this
 ·have hkl:k<len * size:=by have:=(Ab.1 hk).1;simpa using this
  rw[hget k hkl] at hk;cases hk;have hlt:base+off * size+k<cs.size:=by omega
  simp[World.cell?,hheap,Array.getD,hlt]
theorem Nw{id gen off len size:Nat}{es:List PV}(h:Gs σ id gen off len size=some es):∃fs,σ[id]?=some [.arrv gen size fs]∧off+len≤fs.length∧es=(fs.drop off).take len:=by
 unfold Gs at h
 split at h
 ·rename_i cs hσ
  split at h
  ·rename_i fs hfs
   split at h
   ·rename_i hl;cases h;rw[Jm hfs] at hσ;exact⟨fs,hσ,hl,rfl⟩
   ·cases h
  ·cases h
 ·cases h
theorem Mh(hi:Inv cx G a w A σ){size:Nat}(hs0:0<size){xT:TypeId}(hxT:∃e',P.underlying xT=some (.slice e')){v:Value}{x:PV}(hr:Bu G.I G.bl w v x){xs:List PV}(hx:Jn size σ x=some xs)
  (hones:xs.all PV.ones=true):∃news,Src P size xT v xs.length news w∧KU G.I G.bl w size news xs:=by
 cases x with
 |slice own sz es=>
  obtain⟨news,h1,h2⟩:=UG (P:=P) (G:=G) hs0 (.inl hxT) hr (xs:=xs) hx hones;exact⟨news,h1,.jE h2⟩
 |nils=>
  obtain⟨news,h1,h2⟩:=UG (P:=P) (G:=G) hs0 (.inl hxT) hr (xs:=xs) hx hones;exact⟨news,h1,.jE h2⟩
 |empt=>
  obtain⟨ad,rfl⟩:=hr.Iq;cases hx;obtain⟨e',hk⟩:=hxT;exact⟨[],Src.ofSlice w hk ad 0 0 [] (by simp) (fun j u hu=>by simp at hu) (fun u hu=>by cases hu),KU.nil _ _ _ _⟩
 |arr id gen off len sz=>
  simp only[Jn] at hx
  split at hx
  ·rename_i hsz';subst hsz';obtain⟨fs,hσ,hl,rfl⟩:=Nw hx;obtain⟨b0,base0,n0,cap,b',o',hb,hcap,hcn,hat,rfl⟩:=hr.Gp;obtain⟨b,base,n,cs,elem,h1,h2,hω,hI,hheap,h6,h7,h8,h9⟩:=Ob hi hσ;rw[hb] at h1;cases h1;obtain⟨ds,hrow,hcell⟩:=Kj (G:=G) (id:=id) (gen:=gen) (n:=n0) (off:=off) (len:=len) hs0 hheap (by omega) h9 hl
   have hlen:((fs.drop off).take len).length=len:=by rw[Bj,CX];omega
   have hrl:=hrow.1;rw[hlen] at hrl;refine⟨ds,?_,hrow⟩
   rw[hlen];obtain⟨e',hk⟩:=hxT;refine Src.ofSlice w hk ⟨b',o',none⟩ len cap ds hrl (fun j u hu=>?_) (jo hs0 hrow hones)
   have hjl:=(Ab.1 hu).1
   have hl0:0<len:=by
    rcases Nat.eq_zero_or_pos len with h | h
    ·subst h;rw[Nat.zero_mul] at hrl;omega
    ·exact h
   obtain⟨rfl,rfl⟩:=hat (by omega)
   rw[Fh];exact hcell j u hu
  ·cases hx
 |_=>simp[Jn] at hx
theorem KQ{I:Imm}{bl:Bl}{w':World}{size base:Nat}{cs:Array Value}{news:List Value}{es:List PV}(hrow:KU I bl w' size news es)(hc:∀(k:Nat) (v:Value),news[k]?=some v→cs.getD (base+k) undef=v):
  ∀(i:Nat) (e:PV),es[i]?=some e→e.cells.length=size∧∀(j:Nat) (p:PV),e.cells[j]?=some p→Bu I bl w' (cs.getD (base+i * size+j) undef) p:=by
 intro i e he;refine⟨hrow.2.1 i e he,fun j p hp=>?_⟩
 obtain⟨c,h1,h2⟩:=hrow.2.2 i e j p he hp;rw[CU,hc _ _ h1];exact h2
def Bl.gen(bl:Bl)(id gen:Nat)(x:Nat×Nat×Nat):Bl:=⟨bl.l,fun k g=>if k=id∧g=gen then some x else bl.ab k g⟩
theorem Bl.Rq{bl:Bl}{id gen:Nat}(h:bl.ab id gen=none)(x:Nat×Nat×Nat):bl.le (bl.gen id gen x):=by
 refine⟨List.prefix_rfl,fun k g y hy=>?_⟩
 show(if _ then _ else _)=_
 rw[if_neg]
 ·exact hy
 ·rintro⟨rfl,rfl⟩;rw[h] at hy;cases hy
theorem Bl.YW(bl:Bl)(id gen:Nat)(x:Nat×Nat×Nat):(bl.gen id gen x).ab id gen=some x:=if_pos ⟨rfl,rfl⟩
theorem Bl.Ku(bl:Bl){id gen k g:Nat}(x:Nat×Nat×Nat)(h:¬(k=id∧g=gen)):(bl.gen id gen x).ab k g=bl.ab k g:=if_neg h
theorem Nf(cells:Array Value)(news:List Value)(rest:Array Value)(h:cells=news.toArray++rest):∀(k:Nat) (v:Value),news[k]?=some v→cells.getD (0+k) undef=v:=by
 intro k v hk;have hlt:=(Ab.1 hk).1;rw[Bc,h,Ah,Dt (by simpa using hlt),Cz,hk];rfl
theorem NK(hi:Inv cx G a w A σ){d:Nat}(hdv:d<cx.nt∧(cx.kd d).val=true){o:Oper}(hod:o.dst=some d){w1:World}(hx0:Ext (fun _=>False) G G w w1)(hb0:Base cx G w1)
  {cells:Array Value} {e:TypeId} {size len cap:Nat} {es:List PV} (hs0:0<size) (hcap:len≤cap) (hsz:cells.size=cap * size) (hlen:es.length=len)
  (hes:∀(i:Nat) (e:PV),es[i]?=some e→e.cells.length=size∧∀(j:Nat) (p:PV),e.cells[j]?=some p→Bu G.I G.bl w (cells.getD (0+i * size+j) undef) p)
  (hr:(execOp a.eval o).run P w=.ok (.value (.slice (some ⟨w1.heap.size,0,none⟩) len cap)) (w1.alloc (.cells cells e))) :
  Gives P cx o a w (A.set d (some (.arr σ.length 0 0 len size))) (σ++[[.arrv 0 size es]]):=by
 let G1:=G.Jr w1.heap.size (fun _=>False) (some (.obj σ.length none))
 let bl':Bl:=⟨G.bl.l++[w1.heap.size],(G.bl.gen σ.length 0 (w1.heap.size,0,cells.size)).ab⟩
 let G':Gh:={ G1 with bl:=bl' }
 have hnone:∀g,G.bl.ab σ.length g=none:=by
  intro g;cases h:G.bl.ab σ.length g with
  |none=>rfl
  |some y=>have:=hi.abl _ _ _ h;omega
 have hble:G.bl.le bl':=⟨Cr _ _,(Bl.Rq (hnone 0) _).2⟩;have hext1:=hx0.trans (EG (fun _=>False) hb0 (.cells cells e) (fun _=>False) (some (.obj σ.length none)))
 have hext:Ext (fun _=>False) G G' w (w1.alloc (.cells cells e)):=⟨hext1.I,hext1.same,hble,fun id hid _ g=>Bl.Ku _ _ (by rw[hi.len] at hid;omega),hext1.fix⟩
 have hb1:=Ep hb0 (.cells cells e) (fun _=>False) (some (.obj σ.length none))
 have hbase:Base cx G' (w1.alloc (.cells cells e)):=⟨hb1.keep,hb1.same,hb1.sub,hb1.new,hb1.lt,hb1.own,hb1.Klt,hb1.grow,hi.base.bl.trans hble,hb1.os,hb1.tape,hb1.output⟩
 have hbl:G'.bl.l[σ.length]?=some w1.heap.size:=by
  show(G.bl.l++[w1.heap.size])[σ.length]?=_;rw[←hi.len];simp
 have habn:G'.bl.ab σ.length 0=some (w1.heap.size,0,cells.size):=Bl.YW ..
 have hval:F6 G'.bl (.slice (some ⟨w1.heap.size,0,none⟩) len cap) (.arr σ.length 0 0 len size):=
  .arr habn hcap (by rw[Bc,Bc,hsz];exact Be _) (fun _=>⟨rfl,by omega⟩)
 refine .inl ⟨_,_,hr,G',?_⟩
 rw[hod];refine hi.step (fun _=>False) (some d) _ hext hbase (by simp) ?_ ?_ ?_ ?_
 ·intro t q hq;rw[C8] at hq
  split at hq
  ·rename_i h;cases hq;refine .inr ?_
   rw[h.1,BL hdv.2 rfl,EL _ _ _ (by rw[hi.size];exact hdv.1)]
   exact⟨.one (.inr hval),trivial⟩
  ·rename_i h;refine .inl ⟨hq,fun e=>h ⟨(Option.some.inj e).symm,by have:=hi.room;have:=hdv.1;omega⟩,fun _ h=>h,fun d' off e' hbx hdd=>?_,fun m hm=>⟨fun e'=>?_,fun h=>h⟩⟩
   ·cases hdd;have:=hdv.2;rw[hbx] at this;simp[SK.val] at this
   ·cases e';obtain⟨keys,hkm⟩:=cx.ents t d hm;have:=hdv.2;rw[hkm] at this;simp[SK.val] at this
 ·intro id cs' hc';by_cases hid:id<σ.length
  ·rw[Ae hid] at hc';exact .inl ⟨hc',fun _ h=>h⟩
  ·have:id=σ.length:=by
    have:=(Ab.1 hc').1;simp at this;omega
   subst this;simp at hc';subst hc'
   refine .inr ⟨w1.heap.size,hbl,.inr (.inr (.inr (.inl ⟨0,size,_,rfl,w1.heap.size,0,cells.size,cells,e,habn,fun g hg=>?_,if_pos rfl,?_,heap_alloc_new' _ _,rfl,hs0,?_,
    fun i e he=>⟨(hes i e he).1,fun j p hp=>((hes i e he).2 j p hp).mono hext.I hext.same hext.bl⟩⟩)))⟩
   ·exact(Bl.Ku _ _ (by omega)).trans (hnone g)
   ·rintro x (h | ⟨_,h⟩)
    ·have:=hb0.lt _ _ h;omega
    ·exact h
   ·rw[hlen,Bc,hsz];exact Bv _ hcap
 ·show(G.bl.l++[w1.heap.size]).length=_;simp[hi.len]
 ·intro id g y hy;show id<(σ++_).length;simp only[AV,BI,De];by_cases h:id=σ.length∧g=0
  ·omega
  ·have:=hi.abl id g y ((Bl.Ku _ _ h).symm.trans hy);omega
theorem gJ(hi:Inv cx G a w A σ)(hkd:∀t,cx.kd t=fi.kind t)(hnt:cx.nt=fi.nt){o:Oper}{c:Call}(ho:o.op=.call c)(hb:c.callee=.builtin .append)
  {sT xT e:TypeId} {d:Nat} {y1 y:Operand} (hargs:c.args=#[y1,y]) (htys:c.argTypes=#[sT,xT]) (hod:o.dst=some d)
  (hsT:P.underlying sT=some (.slice e)) (hxT:∃e',P.underlying xT=some (.slice e')) {it:TypeInfo} (hit:P.info? e=some it)
  (hs0:0<it.size) (hby:it.bytes≤4096) (hz:(it.zero.map (·.cells.size))=some it.size)
  {az:List Ct} (hc:Aq fi [y1,y]=some az) (hd:CJ fi d=true)
  (hrun:BV pur call { dst:=some d,k:=.w (.Fa it.size),args:=az } A σ=some (A',σ')):Gives P cx o a w A' σ':=by
 obtain⟨vs,rs,he,hsem,hA,_⟩:=Hl hrun;obtain⟨z1,zs,rfl,hy1,hz1⟩:=AL hc;obtain⟨z2,zs,rfl,hy2,hz2⟩:=AL hz1;cases hz2;obtain⟨s,qs,rfl,hs,hq⟩:=Au he;obtain⟨x,qs,rfl,hx,hq⟩:=Au hq;cases hq;have hdv:=En hkd hnt hd;obtain⟨z,hz',hzs⟩:=Ac.1 hz;simp only[sem,Cq] at hsem
 split at hsem
 case h_2=>cases hsem
 rename_i xs hxs;have hxfree:x.free=true:=by cases x<;>first | rfl | simp[Jn] at hxs
 have hxrep:=Ba hi hkd hy2 hx hxfree;have hsfree:s.free=true:=by cases s<;>first | rfl | simp[Fa] at hsem
 have hsrep:=Ba hi hkd hy1 hs hsfree;obtain⟨consts,hrun'⟩:=Fb (P:=P) (w:=w) (a:=a) ho hb;rw[hargs,htys] at hrun';have hev:(#[y1,y].map a.eval)=#[a.eval y1,a.eval y]:=by simp
 rw[hev] at hrun'
 have hfin:∀{v:Value} {w':World},(Builtin.append_ #[sT,xT] o.type #[a.eval y1,a.eval y]).run P w=.ok v w'→(execOp a.eval o).run P w=.ok (.value v) w':=by
  intro v w' h;rw[hrun'];simp only[builtin,Sem.run_bind,h,Result.andThen_ok,Sem.run_pure]
 have hput:∀p,rs=[some p]→A'=A.set d (some p):=by
  rintro p rfl
  rw[hA rfl];rfl
 have stay:∀{v:Value},rs=[some s]→σ'=σ→a.eval y1=v→(Builtin.append_ #[sT,xT] o.type #[v,a.eval y]).run P w=.ok v w→(∀sz es,s≠.slice true sz es)→Gives P cx o a w A' σ':=by
  intro v h1 h2 h3 h4 h5;subst h2;rw[hput _ h1];refine .inl ⟨v,w,hfin (by rw[h3];exact h4),G,?_⟩
  rw[hod];exact hi.JK (Ext.refl _ _ _) hi.base rfl (some d) (fun t e=>by cases e;exact hdv) hsfree (by rw[←h3];exact hsrep) (fun _ _=>Lm h5)
 have frame:∀(G':Gh) (w':World) (v:Value) (p:PV),p.free=true→Bu G'.I G'.bl w' v p→(∀tag,Eb G' w' tag v p)→∀(t:Nat) (q:PV),Frm.get (A.set d (some p)) t=some q→
   (¬False∧some d≠some t∧A.get t=some q)∨DY cx G' (a.put (some d) v) w' t q:=by
  intro G' w' v p hf hr how t q hq;rw[C8] at hq
  split at hq
  ·rename_i h;cases hq;refine .inr ?_
   rw[h.1,BL hdv.2 hf,EL _ _ _ (by rw[hi.size];exact hdv.1)]
   exact⟨hr,how _⟩
  ·rename_i h;exact .inl ⟨fun h=>h,fun e=>h ⟨(Option.some.inj e).symm,by have:=hi.room;have:=hdv.1;omega⟩,hq⟩
 cases s with
 |nils=>
  have ev:=hsrep.FR;simp only[Fa] at hsem
  split at hsem
  ·rename_i hemp;have hxe:xs=[]:=D9.1 hemp;subst hxe;cases hsem;obtain⟨news,hsrc,_⟩:=Mh (P:=P) hi hs0 hxT hxrep hxs (by rfl)
   have hn0:news=[]:=Bq.1 (by rw[hsrc.newsLen];simp)
   subst hn0;refine stay rfl rfl ev ?_ (by simp)
   have hc0:=hsrc.cells;have hl0:=hsrc.len w;simp only[De] at hc0 hl0;obtain⟨e',hk⟩:=hxT;simp[Builtin.append_,run_underlying hsT,run_underlying hk,sizeOf,typeInfo,hit,hl0,hc0]
  ·rename_i hemp
   split at hsem
   case isFalse=>cases hsem
   rename_i hcond;obtain⟨hmax,hones,hokc⟩:=hcond;cases hsem;rw[hput _ rfl];obtain⟨news,hsrc,hrow⟩:=Mh (P:=P) hi hs0 hxT hxrep hxs hones
   have hxlen:0<xs.length:=by
    cases xs with
    |nil=>simp at hemp
    |cons _ _=>simp
   have hr:=run_append_grow_src w sT xT o.type e it z hsT hit hz' none 0 0 [] (run_firstCells_none w.drew it.size 0 0 0) (a.eval y) xs.length news hsrc (by omega) (by unfold Cb at hmax;omega) (Jf (by omega) (by omega) hby)
   rw[←ev] at hr;simp only[Bc,BK] at hr
   let cap:=grownCap w xs.length 0 e
   let rest:Array Value:=Builtin.zeroCells z.cells (cap - xs.length)
   have hcap:xs.length≤cap:=grownCap_ge ..
   have hsz:(news.toArray++rest).size=cap * it.size:=by
    simp only[rest,EE,CL,hrow.1,Builtin.zeroCells,Array.size_map,EU,hzs];rw[←BS];congr 1;omega
   exact NK hi hdv hod (Jj (G:=G) (w:=w) (fun _=>False)) (FY hi.base) hs0 hcap hsz (by simp) (KQ hrow.Ag (Nf _ news rest rfl)) (hfin hr)
 |empt=>
  obtain⟨ad,ev⟩:=hsrep.Iq;simp only[Fa] at hsem
  split at hsem
  ·rename_i hemp;have hxe:xs=[]:=D9.1 hemp;subst hxe;cases hsem;obtain⟨news,hsrc,_⟩:=Mh (P:=P) hi hs0 hxT hxrep hxs (by rfl)
   have hn0:news=[]:=Bq.1 (by rw[hsrc.newsLen];simp)
   subst hn0;refine stay rfl rfl ev ?_ (by simp)
   have hc0:=hsrc.cells;have hl0:=hsrc.len w;simp only[De] at hc0 hl0;obtain⟨e',hk⟩:=hxT;simp[Builtin.append_,run_underlying hsT,run_underlying hk,sizeOf,typeInfo,hit,hl0,hc0,storeCells]
  ·rename_i hemp
   split at hsem
   case isFalse=>cases hsem
   rename_i hcond;obtain⟨hmax,hones,hokc⟩:=hcond;cases hsem;rw[hput _ rfl];obtain⟨news,hsrc,hrow⟩:=Mh (P:=P) hi hs0 hxT hxrep hxs hones
   have hxlen:0<xs.length:=by
    cases xs with
    |nil=>simp at hemp
    |cons _ _=>simp
   have hr:=run_append_grow_src w sT xT o.type e it z hsT hit hz' (some ad) 0 0 [] (run_firstCells_some w.drew it.size 0 ad 0 0 [] (by simp) (fun j u h=>by simp at h)) (a.eval y) xs.length news hsrc (by omega) (by unfold Cb at hmax;omega) (Jf (by omega) (by omega) hby)
   rw[←ev] at hr;simp only[Bc,BK] at hr
   let cap:=grownCap w xs.length 0 e
   let rest:Array Value:=Builtin.zeroCells z.cells (cap - xs.length)
   have hcap:xs.length≤cap:=grownCap_ge ..
   have hsz:(news.toArray++rest).size=cap * it.size:=by
    simp only[rest,EE,CL,hrow.1,Builtin.zeroCells,Array.size_map,EU,hzs];rw[←BS];congr 1;omega
   exact NK hi hdv hod (Jj (G:=G) (w:=w) (fun _=>False)) (FY hi.base) hs0 hcap hsz (by simp) (KQ hrow.Ag (Nf _ news rest rfl)) (hfin hr)
 |arr id gen off len sz=>
  simp only[Fa] at hsem
  split at hsem
  case isFalse=>cases hsem
  rename_i hsz';subst hsz'
  split at hsem
  case h_2=>cases hsem
  rename_i es hes;obtain⟨fs,hσ,hl,rfl⟩:=Nw hes;obtain⟨b0,base0,n0,cap,b',o',hbb,hcap,hcn,hat,ev⟩:=hsrep.Gp;obtain⟨b,base,n,cs,elem,h1,h2,hω,hI,hheap,h6,h7,h8,h9⟩:=Ob hi hσ;rw[hbb] at h1;cases h1;have hidlt:=(Ab.1 hσ).1;have hlen:((fs.drop off).take len).length=len:=by rw[Bj,CX];omega
  split at hsem
  ·rename_i hemp;have hxe:xs=[]:=D9.1 hemp;subst hxe;cases hsem;obtain⟨news,hsrc,_⟩:=Mh (P:=P) hi hs0 hxT hxrep hxs (by rfl)
   have hn0:news=[]:=Bq.1 (by rw[hsrc.newsLen];simp)
   subst hn0;exact stay rfl rfl ev (run_append_room_src w sT xT o.type e it hsT hit b' o' len cap _ _ [] hsrc (by simpa using hcap) (by simp) (by simp)) (by simp)
  ·rename_i hemp
   split at hsem
   case isFalse=>cases hsem
   rename_i hcond;obtain⟨hmax,hones,hokc⟩:=hcond;cases hsem;rw[hput _ rfl];obtain⟨news,hsrc,hrow⟩:=Mh (P:=P) hi hs0 hxT hxrep hxs hones
   have hxlen:0<xs.length:=by
    cases xs with
    |nil=>simp at hemp
    |cons _ _=>simp
   obtain⟨olds,holdrow,holdcell⟩:=Kj (G:=G) (id:=id) (gen:=gen) (n:=n0) (off:=off) (len:=len) hs0 hheap (by omega) h9 hl
   have holdlen:olds.length=len * it.size:=by rw[holdrow.1,hlen]
   have hnewlen:news.length=xs.length * it.size:=hrow.1;have hnone:G.bl.ab id (gen+1)=none:=h2 _ (by omega)
   obtain⟨bo,hbo,_⟩:=hi.obj id _ hσ;by_cases hfit:len+xs.length≤cap
   ·
    obtain⟨rfl,rfl⟩:=hat (by omega)
    have hmul:(off+(len+xs.length)) * it.size≤(off+cap) * it.size:=Bv _ (by omega)
    have hmul2:(off+(len+xs.length)) * it.size=off * it.size+len * it.size+xs.length * it.size:=by rw[BS,BS];omega
    have hmul3:(off+cap) * it.size=off * it.size+cap * it.size:=BS ..
    let k:=base0+off * it.size+len * it.size
    have hin:∀j,j<news.length→(w.cell? ⟨b',k+j,none⟩).isSome=true:=by
     intro j hj;simp only[World.cell?,hheap];have:k+j<cs.size:=by show base0+off * it.size+len * it.size+j<cs.size;omega
     simp[this]
    have hr:=run_append_room_src w sT xT o.type e it hsT hit b' (base0+off * it.size) len cap (a.eval y) xs.length news hsrc hfit hin (fun j hj=>by simp[World.frozen?,hheap])
    rw[←ev] at hr
    let w':=w.setCells b' k news
    let bl':Bl:=G.bl.gen id (gen+1) (b',base0+off * it.size,n0)
    let G':Gh:=⟨G.I,G.ω,bl'⟩
    have hne:∀b2 x,G.I b2 x→b2≠b':=fun b2 x h e=>hI x (e▸h)
    have hsame:Same G.I w w':=⟨fun b2 o2 h=>cell_of_heap (Ea b' _ _ _ _ (hne _ _ h)),fun b2 h=>Ea b' _ _ _ _ (hne _ _ h)⟩
    have hext:Ext (fun tg=>tg=.obj id none) G G' w w':=by
     refine⟨fun _ _ h=>h,hsame,Bl.Rq hnone _,fun id' hid' hX g=>Bl.Ku _ _ (fun hh=>hX none (by rw[hh.1])),fun b2 tg h hX=>?_⟩
     have hb2:b2≠b':=by
      intro e2;subst e2;rw[hω] at h;cases h;exact hX rfl
     exact⟨h,Ea b' _ _ _ _ hb2,fun x hx=>hx⟩
    have hnK:=(hi.base.own b' _ hω).2
    have hbase:Base cx G' w':=by
     have hb0:=hi.base;refine⟨fun b2 hK=>?_,hb0.same.trans hsame hb0.sub,hb0.sub,hb0.new,fun b2 x h=>by rw[size_setCells];exact hb0.lt b2 x h,fun b2 tg h=>by rw[size_setCells];exact hb0.own b2 tg h,hb0.Klt,by rw[size_setCells];exact hb0.grow,hb0.bl.trans (Bl.Rq hnone _),?_,by rw[JG];exact hb0.tape,?_⟩
     ·rw[Ea b' _ _ _ _ (fun e2=>hnK (e2▸hK))];exact hb0.keep b2 hK
     ·rw[World.os_setCells];exact hb0.os
     ·rw[World.output_setCells];exact hb0.output
    obtain⟨cur',hcur1,hcur2⟩:=GI b' elem (0,0) news k w cs hheap;have habn:G'.bl.ab id (gen+1)=some (b',base0+off * it.size,n0):=Bl.YW ..;have hrow2:=((holdrow.append hrow.Ag)).mono hext.I hext.same hext.bl
    have hcellw:∀(j:Nat) (v:Value),(olds++news)[j]?=some v→cur'.getD (base0+off * it.size+j) undef=v:=by
     intro j v hj
     have key:w'.cell? ⟨b',base0+off * it.size+j,none⟩=some v:=by
      by_cases hjo:j<olds.length
      ·rw[Ae hjo] at hj;have h0:=holdcell j v hj;rw[←h0];exact World.cell?_setCells_out b' news _ w _ (fun _ _=>.inl (by dsimp only;show _<base0+off * it.size+len * it.size;omega))
      ·rw[Al (by omega),holdlen] at hj
       have hkn:j - len * it.size<news.length:=(Ab.1 hj).1;have h0:=World.cell?_setCells_in b' news k w hin _ hkn
       rw[show k+(j - len * it.size)=base0+off * it.size+j from by show base0+off * it.size+len * it.size+(j - len * it.size)=_;omega] at h0
       rw[h0,←Ad hkn];exact hj
     simp only[World.cell?] at key;rw[hcur2] at key;rw[Ah];simp at key;rw[key];rfl
    have hval:F6 G'.bl (.slice (some ⟨b',base0+off * it.size,none⟩) (len+xs.length) cap) (.arr id (gen+1) 0 (len+xs.length) it.size):=
     .arr habn hfit (by rw[Bc];omega) (fun _=>⟨rfl,by omega⟩)
    refine .inl ⟨_,w',hfin hr,G',?_⟩
    rw[hod]
    refine hi.NJ (X:=fun tg=>tg=.obj id none) (T:=fun _=>False) (some d) _ (fun u e=>by cases e;exact hdv.2) hidlt
     ⟨bo,hbo,.inr (.inr (.inr (.inl ⟨gen+1,it.size,_,rfl,b',base0+off * it.size,n0,cur',elem,habn,fun g hg=>?_,hω,hI,hcur2,by omega,hs0,?_,KQ hrow2 hcellw⟩)))⟩ hext hbase rfl (fun k' g x hx=>?_) (fun tg h=>.inl ⟨none,h⟩) (fun _ h=>h.elim) (by simp)
     (frame G' w' _ _ rfl (.one (.inr hval)) (fun _=>trivial))
    ·exact(Bl.Ku _ _ (by omega)).trans (h2 g (by omega))
    ·rw[AV,Am,hlen,BS];omega
    ·by_cases hh:k'=id∧g=gen+1
     ·rw[hh.1];exact hidlt
     ·exact hi.abl k' g x ((Bl.Ku _ _ hh).symm.trans hx)
   ·
    have hg:cap<len+xs.length:=by omega
    have hfc:(Builtin.firstCells it.size len (.slice (some ⟨b',o',none⟩) len cap)).run P w.drew=.ok olds.toArray w.drew:=by
     refine run_firstCells_some w.drew it.size len ⟨b',o',none⟩ len cap olds holdlen (fun j v hj=>?_)
     have hjl:=(Ab.1 hj).1
     have hl0:0<len:=by
      rcases Nat.eq_zero_or_pos len with h | h
      ·subst h;rw[Nat.zero_mul] at holdlen;omega
      ·exact h
     obtain⟨rfl,rfl⟩:=hat (by omega)
     rw[Fh];exact holdcell j v hj
    have hr:=run_append_grow_src w sT xT o.type e it z hsT hit hz' (some ⟨b',o',none⟩) len cap olds hfc (a.eval y) xs.length news hsrc hg (by unfold Cb at hmax;omega) (Jf hg hmax hby)
    rw[←ev] at hr
    let cap':=grownCap w (len+xs.length) cap e
    let rest:Array Value:=Builtin.zeroCells z.cells (cap' - (len+xs.length))
    let cells:Array Value:=(olds++news).toArray++rest
    have hcap':len+xs.length≤cap':=grownCap_ge ..
    have hsz:cells.size=cap' * it.size:=by
     simp only[cells,rest,EE,CL,AV,holdlen,hnewlen,Builtin.zeroCells,Array.size_map,EU,hzs];rw[←BS,←BS];congr 1;omega
    let G1:=G.Jr w.heap.size (fun _=>False) (some (.obj id none))
    let bl':Bl:=G.bl.gen id (gen+1) (w.heap.size,0,cells.size)
    let G':Gh:={ G1 with bl:=bl' }
    have hext1:=(Jj (G:=G) (w:=w) (fun tg=>tg=.obj id none)).trans (EG (fun tg=>tg=.obj id none) (FY hi.base) (.cells cells e) (fun _=>False) (some (.obj id none)))
    have hext:Ext (fun tg=>tg=.obj id none) G G' w (w.drew.alloc (.cells cells e)):=⟨hext1.I,hext1.same,Bl.Rq hnone _,fun id' hid' hX g=>Bl.Ku _ _ (fun hh=>hX none (by rw[hh.1])),hext1.fix⟩
    have hb1:=Ep (FY hi.base) (.cells cells e) (fun _=>False) (some (.obj id none))
    have hbase:Base cx G' (w.drew.alloc (.cells cells e)):=⟨hb1.keep,hb1.same,hb1.sub,hb1.new,hb1.lt,hb1.own,hb1.Klt,hb1.grow,hi.base.bl.trans (Bl.Rq hnone _),hb1.os,hb1.tape,hb1.output⟩;have habn:G'.bl.ab id (gen+1)=some (w.heap.size,0,cells.size):=Bl.YW ..;have hrow2:=((holdrow.append hrow.Ag)).mono hext.I hext.same hext.bl
    have hval:F6 G'.bl (.slice (some ⟨w.heap.size,0,none⟩) (len+xs.length) cap') (.arr id (gen+1) 0 (len+xs.length) it.size):=
     .arr habn hcap' (by rw[Bc,Bc,hsz];exact Be _) (fun _=>⟨rfl,by omega⟩)
    refine .inl ⟨_,_,hfin hr,G',?_⟩
    rw[hod];show Inv cx G' (a.put (some d) (.slice (some ⟨w.heap.size,0,none⟩) (len+xs.length) cap')) (w.drew.alloc (.cells cells e)) _ _
    refine hi.NJ (X:=fun tg=>tg=.obj id none) (T:=fun _=>False) (some d) _ (fun u e=>by cases e;exact hdv.2) hidlt
     ⟨bo,hbo,.inr (.inr (.inr (.inl ⟨gen+1,it.size,_,rfl,w.heap.size,0,cells.size,cells,e,habn,fun g hg=>?_,if_pos rfl,?_,heap_alloc_new' _ _,rfl,hs0,?_,KQ hrow2 (Nf cells (olds++news) rest rfl)⟩)))⟩ hext hbase rfl (fun k' g x hx=>?_) (fun tg h=>.inl ⟨none,h⟩) (fun _ h=>h.elim) (by simp)
     (frame G' (w.drew.alloc (.cells cells e)) (.slice (some ⟨w.heap.size,0,none⟩) (len+xs.length) cap') _ rfl (.one (.inr hval)) (fun _=>trivial))
    ·exact(Bl.Ku _ _ (by omega)).trans (h2 g (by omega))
    ·rintro x (h | ⟨_,h⟩)
     ·have:=hi.base.lt _ _ h;omega
     ·exact h
    ·rw[AV,Am,hlen,Bc,hsz];exact Bv _ hcap'
    ·by_cases hh:k'=id∧g=gen+1
     ·rw[hh.1];exact hidlt
     ·exact hi.abl k' g x ((Bl.Ku _ _ hh).symm.trans hx)
 |_=>simp[Fa] at hsem
theorem Ud(hi:Inv cx G a w A σ){id gen off len size:Nat}{es:List PV}(hes:Gs σ id gen off len size=some es)(hfl:es.all (fun e=>e.flat&&e.cells.all PV.flat)=true):
  ∃G',Inv cx G' a w A (σ.set id [.dead])∧G'.bl=G.bl∧(∀b x,G.I b x→G'.I b x)∧∀v,Bu G.I G.bl w v (.arr id gen off len size)→Rep G'.I w v (.slice false size es):=by
 obtain⟨fs,hσ,hl,rfl⟩:=Nw hes;obtain⟨b,base,n,cs,elem,h1,h2,hω,hI,hheap,h6,h7,h8,h9⟩:=Ob hi hσ;obtain⟨bo,hbo,_⟩:=hi.obj id _ hσ
 let J:Option Nat→Prop:=fun x=>∃o,x=some o
 have hext:=Sd (G:=G) (w:=w) (X:=fun tg=>tg=.obj id none) hω rfl J
 refine⟨G.shut b J,hi.NJ (X:=fun tg=>tg=.obj id none) (T:=fun _=>False) none undef (fun u e=>by cases e) (Ab.1 hσ).1 ⟨bo,hbo,.inr (.inr (.inl rfl))⟩ hext (MF hi.base hω J) rfl hi.abl
  (fun tg h=>.inl ⟨none,h⟩) (fun _ h=>h.elim) rfl (fun t q hq=>.inl ⟨fun h=>h,by simp,hq⟩),rfl,fun _ _ h=>.inl h,fun v hv=>?_⟩
 obtain⟨b0,base0,n0,cap,b',o',hbb,hcap,hcn,hat,ev⟩:=hv.Gp;rw[hbb] at h1;cases h1;have hlen:((fs.drop off).take len).length=len:=by rw[Bj,CX];omega
 obtain⟨ds,hrow,hcell⟩:=Kj (G:=G) (id:=id) (gen:=gen) (n:=n) (off:=off) (len:=len) h7 hheap (by omega) h9 hl
 have hflat:∀(i:Nat) (e:PV) (j:Nat) (p:PV),((fs.drop off).take len)[i]?=some e→e.cells[j]?=some p→p.flat=true:=by
  intro i e j p he hp;have:=Ao.1 hfl e (AA he);rw[Ak] at this;exact Ao.1 this.2 p (AA hp)
 have hrow2:Hd (G.shut b J).I w size ds ((fs.drop off).take len):=by
  refine⟨hrow.1,hrow.2.1,fun i e j p he hp=>?_⟩
  obtain⟨c,c1,c2⟩:=hrow.2.2 i e j p he hp;exact⟨c,c1,(c2.flat (hflat i e j p he hp)).mono hext.I hext.same⟩
 rw[ev];by_cases hl0:len=0
 ·have hemp:(fs.drop off).take len=[]:=by rw[hl0];simp
  rw[hemp] at hlen ⊢;exact .slice (fun _ _=>undef) hlen.symm hcap (fun h=>absurd rfl h) (fun i e h=>by simp at h) (fun i e j p h=>by simp at h) (fun i e j p h=>by simp at h) (fun i e j p h=>by simp at h)
 ·obtain⟨rfl,rfl⟩:=hat (by omega)
  exact Kl hlen.symm hcap hrow2 (fun k _=>.inr ⟨rfl,_,rfl⟩) (fun k v hk=>hcell k v hk)
theorem RO(hi:Inv cx G a w A σ){id gen off len size:Nat}{es:List PV}(hes:Gs σ id gen off len size=some es)(hfl:es.all (fun e=>e.flat&&e.cells.all PV.flat)=true):
  ∃G',Inv cx G' a w A (σ.set id [.dead])∧∀v,Bu G.I G.bl w v (.arr id gen off len size)→Rep G'.I w v (.slice false size es):=by
 obtain⟨G',h1,_,_,h4⟩:=Ud hi hes hfl;exact⟨G',h1,h4⟩
theorem OW:∀(ps:List PV) {vs:List PV} {σ σ':Sto},RP ps σ=some (vs,σ')→∀{G:Gh},Inv cx G a w A σ→
  ∃G',Inv cx G' a w A σ'∧G'.bl=G.bl∧(∀b x,G.I b x→G'.I b x)∧vs.length=ps.length∧∀(i:Nat) (p q:PV),ps[i]?=some p→vs[i]?=some q→∀c,GL G.I G.bl w c p→Rep G'.I w c q
 |[],vs,σ,σ',h,G,hi=>by
  cases h;exact⟨G,hi,rfl,fun _ _ h=>h,rfl,fun i p q hp=>by simp at hp⟩
 |c::cs,vs,σ,σ',h,G,hi=>by
  have flat:c.flat=true→(RP cs σ).map (fun(vs,σ')=>(c.D8::vs,σ'))=some (vs,σ')→∃G',Inv cx G' a w A σ'∧G'.bl=G.bl∧(∀b x,G.I b x→G'.I b x)∧vs.length=(c::cs).length∧∀(i:Nat) (p q:PV),(c::cs)[i]?=some p→vs[i]?=some q→∀u,GL G.I G.bl w u p→Rep G'.I w u q:=by
   intro hf h;obtain⟨⟨us,σ1⟩,h1,e⟩:=Ac.1 h;cases e;obtain⟨G',i1,i2,i3,i4,i5⟩:=OW cs h1 hi;refine⟨G',i1,i2,i3,by simp[i4],fun i p q hp hq u hu=>?_⟩
   cases i with
   |zero=>
    simp at hp hq;subst hp hq;exact(((Bu.one hu).flat hf).mono i3 (Same.refl _ _)).D8
   |succ i=>exact i5 i p q (by simpa using hp) (by simpa using hq) u hu
  unfold RP at h
  split at h
  ·rename_i id gen off len size
   split at h
   case h_2=>cases h
   rename_i es hes
   split at h
   case isFalse=>cases h
   rename_i hfl;obtain⟨⟨us,σ1⟩,h1,e⟩:=Ac.1 h;cases e;obtain⟨G1,j1,j2,j3,j4⟩:=Ud hi hes hfl;obtain⟨G',i1,i2,i3,i4,i5⟩:=OW cs h1 j1;refine⟨G',i1,i2.trans j2,fun b x h=>i3 _ _ (j3 _ _ h),by simp[i4],fun i p q hp hq u hu=>?_⟩
   cases i with
   |zero=>
    simp at hp hq;subst hp hq;exact(j4 u (.one hu)).mono i3 (Same.refl _ _)
   |succ i=>exact i5 i p q (by simpa using hp) (by simpa using hq) u (hu.mono j3 (Same.refl _ _) (by rw[j2];exact Bl.le_refl _))
  ·split at h
   ·rename_i hf;exact flat hf h
   ·cases h
theorem Inv.reset(hi:Inv cx G a w A σ){d:Nat}{p:PV}(hs:DY cx G a w d p):Inv cx G a w (A.set d (some p)) σ:=by
 refine⟨hi.defers,hi.size,by rw[Bo];exact hi.room,hi.base,fun t v hv=>?_,hi.obj,hi.len,hi.abl⟩
 rw[C8] at hv
 split at hv
 ·rename_i h;cases hv;rw[h.1];exact hs
 ·exact hi.slot t v hv
theorem om(hi:Inv cx G a w A σ)(hkd:∀t,cx.kd t=fi.kind t)(hnt:cx.nt=fi.nt){o:Oper}{x:Operand}(ho:o.op=.move x)
  {az:List Ct} (hc:Aq fi [x]=some az) (hd:BA fi o.dst=true) (hrun:BV pur call { dst:=o.dst,k:=.w .frz,args:=az } A σ=some (A',σ')):Gives P cx o a w A' σ':=by
 obtain⟨vs,rs,he,hs,hA1,hA2⟩:=Hl hrun;obtain⟨y,zs,rfl,hy,hz⟩:=AL hc;cases hz;obtain⟨p,qs,rfl,hp,hq⟩:=Au he;cases hq
 have hA:∀q,rs=[some q]→A'=GA A o.dst q:=by
  rintro q rfl
  cases hdd:o.dst with
  |none=>
   rw[hdd] at hA2;exact(hA2 (by simp)).1
  |some d=>
   rw[hdd] at hA1;rw[hA1 rfl];rfl
 have hrun0:(execOp a.eval o).run P w=.ok (.value (a.eval x)) w:=by simp[execOp,ho]
 have hdst:=DC hkd hnt hd;cases p with
 |nils=>
  simp only[sem,Cq] at hs;cases hs;rw[hA _ rfl];exact .inl ⟨_,w,hrun0,G,hi.JK (Ext.refl _ _ _) hi.base rfl o.dst hdst rfl (Ba hi hkd hy hp rfl) (fun _ _=>trivial)⟩
 |empt=>
  simp only[sem,Cq] at hs;cases hs;rw[hA _ rfl];exact .inl ⟨_,w,hrun0,G,hi.JK (Ext.refl _ _ _) hi.base rfl o.dst hdst rfl (Ba hi hkd hy hp rfl) (fun _ _=>trivial)⟩
 |arr id gen off len size=>
  simp only[sem,Cq] at hs
  split at hs
  ·rename_i es hes
   split at hs
   ·rename_i hfl;cases hs;rw[hA _ rfl];obtain⟨G',hi',hrep⟩:=RO hi hes hfl;exact .inl ⟨_,w,hrun0,G',hi'.JK (Ext.refl _ _ _) hi'.base rfl o.dst hdst rfl (.one (.inl (hrep _ (Ba hi hkd hy hp rfl)))) (fun _ _=>trivial)⟩
   ·cases hs
  ·cases hs
 |_=>simp[sem,Cq] at hs
theorem nQ(hi:Inv cx G a w A σ)(hkd:∀t,cx.kd t=fi.kind t)(hnt:cx.nt=fi.nt){o:Oper}{t e:TypeId}{l c:Operand}{d:Nat}(ho:o.op=.makeSlice t l c)(hod:o.dst=some d)
  (ht:P.underlying t=some (.slice e)) {it:TypeInfo} (hit:P.info? e=some it) {z:PV} (hz:EP P e=some z) (hs0:0<it.size) (hby:it.bytes≤4096) (hzl:z.cells.length=it.size)
  {az:List Ct} (hc:Aq fi [l,c]=some az) (hd:CJ fi d=true) (hrun:BV pur call { dst:=some d,k:=.w (.mks it.size z),args:=az } A σ=some (A',σ')):Gives P cx o a w A' σ':=by
 obtain⟨vs,rs,he,hs,hA,_⟩:=Hl hrun;obtain⟨y,zs,rfl,hy,hz'⟩:=AL hc;obtain⟨y2,zs,rfl,hy2,hz'⟩:=AL hz';cases hz';obtain⟨p,qs,rfl,hp,hq⟩:=Au he;obtain⟨p2,qs,rfl,hp2,hq⟩:=Au hq;cases hq;have hdv:=En hkd hnt hd;simp only[sem] at hs;cases p with
 |int k1 n=>cases p2 with
  |int k2 m=>
   simp only[Cq] at hs
   split at hs
   case isFalse=>cases hs
   rename_i hcc;obtain⟨rfl,h0,hmax,_,_⟩:=hcc;cases hs;rw[hA rfl];have e1:=(Ba hi hkd hy hp rfl).Db;have e2:=(Ba hi hkd hy2 hp2 rfl).Db;unfold EP at hz;rw[hit] at hz;obtain⟨zv,hzv,hzp⟩:=AO.1 hz;have hzr:Rep G.I w zv z:=EN hzp;obtain⟨r1,r2⟩:=FB hzr;have hmx:(Cb:Int)=4294967296:=rfl
   have hbb:(it.bytes:Int) * n≤281474976710656:=by
    have h1:(it.bytes:Int) * n≤4096 * n:=Int.mul_le_mul_of_nonneg_right (by omega) h0
    omega
   have hmk:=run_make (P:=P) w t e it zv ht hit hzv k1 k2 n n h0 (Int.le_refl _) hbb (by omega)
   have hr:(execOp a.eval o).run P w=.ok (.value (.slice (some ⟨w.heap.size,0,none⟩) n.toNat n.toNat)) (w.alloc (.cells (madeCells zv.cells (n.toNat * it.size)) e)):=by
    simp only[execOp,ho,e1,e2,Sem.run_bind,hmk,Result.andThen_ok];rfl
   refine NK hi hdv hod (Ext.refl _ _ _) hi.base hs0 (Be _) (size_madeCells _ _) (by simp) (fun i q hq=>?_) hr
   rw[Cs] at hq
   split at hq
   case isFalse=>cases hq
   rename_i hin;cases hq;refine⟨hzl,fun j u hu=>.one (.inl ?_)⟩
   have hj:j<it.size:=by rw[←hzl];exact(Ab.1 hu).1
   have hlt:0+i * it.size+j<n.toNat * it.size:=by
    have:(i+1) * it.size≤n.toNat * it.size:=Bv _ (by omega)
    rw[CK] at this;omega
   have:=r2 j u hu
   have hg:(madeCells zv.cells (n.toNat * it.size)).getD (0+i * it.size+j) undef=zv.cells.getD j undef:=by
    have hmod:(0+i * it.size+j) % zv.cells.size=j:=by
     rw[r1,hzl,Bc,Nat.add_comm,EA,ES hj]
    have hjs:j<zv.cells.size:=by rw[r1,hzl];exact hj
    rw[Ah,Ah];simp only[madeCells,Eu,Array.getElem?_range,hlt,if_true,Ay,hmod]
    simp[hjs]
   rw[hg];exact this
  |_=>simp[Cq] at hs
 |_=>simp[Cq] at hs
theorem Oz(w:World)(t tx ty e:TypeId)(i:TypeInfo)(z:Value)(ht:P.underlying t=some (.slice e)){k':IntKind}(hx:P.underlying tx=some (.int k'))(hi:P.info? e=some i)(hz:i.zero=some z)(k:IntKind)(n:Nat)(hn:0<n)(hmax:n≤Cb)(hby:i.bytes≤4096)(hs0:0<i.size):
  (Builtin.append_ #[t,tx] ty #[.slice none 0 0,.int k n]).run P w =
   .ok (.slice (some ⟨w.heap.size,0,none⟩) n (grownCap w n 0 e)) (w.drew.alloc (.cells (Builtin.zeroCells z.cells n++Builtin.zeroCells z.cells (grownCap w n 0 e - n)) e)):=by
 unfold Cb at hmax;have hw:IntKind.i64.wrap (n:Int)=n:=by rw[IntKind.wrap_i64];omega
 have h1:¬((n:Int) < 0):=by omega
 have hbb:n * i.bytes≤4294967296 * 4096:=Nat.mul_le_mul hmax hby
 have h2:¬(281474976710656<(n:Int) * i.bytes):=by
  rw[←Int.natCast_mul];omega
 have h3:¬(9223372036854775807<(n:Int)):=by omega
 have h5:¬(281474976710656<Builtin.nextslicecap n 0 * i.bytes):=by
  have:=Jf (old:=0) hn (by unfold Cb;exact hmax) hby
  omega
 have h6:n≠0:=by omega
 have h7:i.size≠0:=by omega
 have h8:¬(n≤0):=by omega
 have h9:¬(n=0∨i.size=0):=by omega
 simp[Builtin.append_,run_underlying ht,run_underlying hx,sizeOf,typeInfo,zeroValue,hi,hz,asInt,asIntOf,hw,h1,h2,h3,h5,h6,h7,Question.forced,run_firstCells_none,newRow,grownCap];intro hbad;have:=Nat.mul_pos hn hs0;omega
theorem gI(hi:Inv cx G a w A σ)(hkd:∀t,cx.kd t=fi.kind t)(hnt:cx.nt=fi.nt){o:Oper}{c:Call}(ho:o.op=.call c)(hb:c.callee=.builtin .append)
  {sT xT e:TypeId} {d:Nat} {y1 y:Operand} (hargs:c.args=#[y1,y]) (htys:c.argTypes=#[sT,xT]) (hod:o.dst=some d)
  (hsT:P.underlying sT=some (.slice e)) {k':IntKind} (hxT:P.underlying xT=some (.int k')) {it:TypeInfo} (hit:P.info? e=some it) {z:PV} (hz:EP P e=some z)
  (hs0:0<it.size) (hby:it.bytes≤4096) (hzl:z.cells.length=it.size)
  {az:List Ct} (hc:Aq fi [y1,y]=some az) (hd:CJ fi d=true)
  (hrun:BV pur call { dst:=some d,k:=.w (.appZ it.size z),args:=az } A σ=some (A',σ')):Gives P cx o a w A' σ':=by
 obtain⟨vs,rs,he,hs,hA,_⟩:=Hl hrun;obtain⟨z1,zs,rfl,hy1,hz1⟩:=AL hc;obtain⟨z2,zs,rfl,hy2,hz1⟩:=AL hz1;cases hz1;obtain⟨s,qs,rfl,hp,hq⟩:=Au he;obtain⟨x,qs,rfl,hp2,hq⟩:=Au hq;cases hq;have hdv:=En hkd hnt hd;simp only[sem] at hs;cases s with
 |nils=>cases x with
  |int k n=>
   simp only[Cq] at hs
   split at hs
   case isFalse=>cases hs
   rename_i hcc;obtain⟨h0,hmax,_⟩:=hcc;cases hs;rw[hA rfl];have e1:=(Ba hi hkd hy1 hp rfl).FR;have e2:=(Ba hi hkd hy2 hp2 rfl).Db;unfold EP at hz;rw[hit] at hz;obtain⟨zv,hzv,hzp⟩:=AO.1 hz;have hzr:Rep G.I w zv z:=EN hzp;obtain⟨r1,r2⟩:=FB hzr;obtain⟨consts,hrun'⟩:=Fb (P:=P) (w:=w) (a:=a) ho hb;rw[hargs,htys] at hrun';have hev:(#[y1,y].map a.eval)=#[a.eval y1,a.eval y]:=by simp
   rw[hev,e1,e2] at hrun';have hnn:((n.toNat:Nat):Int)=n:=by omega
   have hmk:=Oz (P:=P) w sT xT o.type e it zv hsT hxT hit hzv k n.toNat (by omega) (by omega) hby hs0
   rw[hnn] at hmk
   have hfin:∀{v:Value} {w':World},(Builtin.append_ #[sT,xT] o.type #[.slice none 0 0,.int k n]).run P w=.ok v w'→(execOp a.eval o).run P w=.ok (.value v) w':=by
    intro v w' h;rw[hrun'];simp only[builtin,Sem.run_bind,h,Result.andThen_ok,Sem.run_pure]
   have hr:=hfin hmk;have hcap:n.toNat≤grownCap w n.toNat 0 e:=grownCap_ge ..;have hzs:zv.cells.size=it.size:=by rw[r1,hzl]
   refine NK hi hdv hod (Jj (G:=G) (w:=w) (fun _=>False)) (FY hi.base) hs0 hcap ?_ (by simp) (fun i q hq=>?_) hr
   ·simp only[EE,Builtin.zeroCells,Array.size_map,EU,hzs];rw[←BS];congr 1;omega
   ·rw[Cs] at hq
    split at hq
    case isFalse=>cases hq
    rename_i hin;cases hq;refine⟨hzl,fun j u hu=>.one (.inl ?_)⟩
    have hj:j<it.size:=by rw[←hzl];exact(Ab.1 hu).1
    have hlt:0+i * it.size+j<n.toNat * it.size:=by
     have:(i+1) * it.size≤n.toNat * it.size:=Bv _ (by omega)
     rw[CK] at this;omega
    have:=r2 j u hu
    have hg:(Builtin.zeroCells zv.cells n.toNat++Builtin.zeroCells zv.cells (grownCap w n.toNat 0 e - n.toNat)).getD (0+i * it.size+j) undef=zv.cells.getD j undef:=by
     have hmod:(0+i * it.size+j) % zv.cells.size=j:=by
      rw[hzs,Bc,Nat.add_comm,EA,ES hj]
     have hjs:j<zv.cells.size:=by rw[hzs];exact hj
     have hlt2:0+i * it.size+j<n.toNat * zv.cells.size:=by rw[hzs];exact hlt
     rw[Ah,Ah,Dt (by simpa [Builtin.zeroCells] using hlt2)]
     simp only[Builtin.zeroCells,Eu,Array.getElem?_range,hlt2,if_true,Ay,hmod]
     simp[hjs]
    rw[hg];exact this
  |_=>simp[Cq] at hs
 |_=>simp[Cq] at hs
theorem oM(hi:Inv cx G a w A σ)(hkd:∀t,cx.kd t=fi.kind t)(hnt:cx.nt=fi.nt){o:Oper}{t e:TypeId}(ho:o.op=.buildSlice t 0 #[])
  (ht:P.underlying t=some (.slice e)) {size:Nat} {ag:Bool} (hsz:Ci P e=some (size,ag))
  (hd:BA fi o.dst=true) (hrun:BV pur call { dst:=o.dst,k:=.p .bse,args:=[] } A σ=some (A',σ')):Gives P cx o a w A' σ':=by
 refine Vt hi (DC hkd hnt hd) hrun fun vs rs he hs=>?_
 cases he;cases hs;have hext:=EG (fun _=>False) hi.base (.cells #[] e) (fun _=>False) (none:Option Tag)
 refine⟨_,.slice (some ⟨w.heap.size,0,none⟩) 0 0,G.Jr w.heap.size (fun _=>False) none,w.alloc (.cells #[] e),rfl,rfl,?_,hext,Ep hi.base _ _ _,rfl,.one (.inl .empt),fun _ _=>trivial⟩
 simp only[execOp,ho,Instr.buildSlice,Sem.run_bind,underlying,run_program,ht,Result.andThen_ok,Sem.run_pure,run_sizeOf hsz,newRow,run_newObj];have hz0:(Array.map (fun _=>(default:Value)) (Array.range 0))=#[]:=by apply Array.eq_empty_of_size_eq_zero;simp
 simp[Instr.fill,run_newObj];rw[hz0]
theorem Nu(op:BinOp)(t:TypeId)(x y:Operand)(ad:Option Addr)(l c:Nat):(eqGuard op t x y (.slice ad l c) (.slice none 0 0)).run P w=.ok () w:=by
 cases op<;>rfl
theorem Pz{t e:TypeId}(ht:P.underlying t=some (.slice e))(ad:Option Addr)(l c:Nat):(Op.equal t (.slice ad l c) (.slice none 0 0)).run P w=.ok ad.isNone w:=by
 show(Op.equalIn (9999+1) t _ _).run P w=_;generalize 9999=d;cases ad<;>simp[Op.equalIn,underlying,ht]
theorem V8(hi:Inv cx G a w A σ)(hkd:∀t,cx.kd t=fi.kind t)(hnt:cx.nt=fi.nt){o:Oper}{ne:Bool}{op:BinOp}(hop:op=if ne then .neq else .eql){t yt e:TypeId}{x y:Operand}(ho:o.op=.binOp op t x y yt)(ht:P.underlying t=some (.slice e))
  {az:List Ct} (hc:Aq fi [x,y]=some az) (hd:BA fi o.dst=true) (hrun:BV pur call { dst:=o.dst,k:=.p (.snil ne),args:=az } A σ=some (A',σ')):Gives P cx o a w A' σ':=by
 refine F3 hi hkd hnt hd hrun fun vs rs he hs=>?_
 obtain⟨y1,zs,rfl,hy1,hz⟩:=AL hc;obtain⟨y2,zs,rfl,hy2,hz⟩:=AL hz;cases hz;obtain⟨p1,qs,rfl,hp1,hq⟩:=Au he;obtain⟨p2,qs,rfl,hp2,hq⟩:=Au hq;cases hq;cases p2 with
 |nils=>
  have e2:=(Ba hi hkd hy2 hp2 rfl).FR
  have key:∀(ad:Option Addr) (l c:Nat) (b:Bool),a.eval x=.slice ad l c→ad.isNone=b→(execOp a.eval o).run P w=.ok (.value (.bool (b != ne))) w:=by
   rintro ad l c b e1 rfl
   have hg:=Nu (P:=P) (w:=w) op t x y ad l c;have hq:=Pz (P:=P) (w:=w) ht ad l c
   have hb:(Go.binOp op t (.slice ad l c) (.slice none 0 0)).run P w=.ok (.bool (ad.isNone != ne)) w:=by
    cases ne with
    |true=>
     rw[if_pos rfl] at hop;subst hop;rw[binOp_neq hq rfl];cases ad<;>rfl
    |false=>
     rw[if_neg (by simp)] at hop
     subst hop;rw[binOp_eql hq rfl];cases ad<;>rfl
   simp[execOp,ho,e1,e2,hg,hb]
  cases p1 with
  |nils=>
   cases hs;have e1:=(Ba hi hkd hy1 hp1 rfl).FR;have:=key _ _ _ true e1 rfl;exact⟨_,_,rfl,rfl,this,by cases ne<;>exact .one (.inl (.bool _)),fun _=>trivial⟩
  |slice own sz es=>
   cases hs;obtain⟨ad,len,cap,cv,e1,_⟩:=(Ba hi hkd hy1 hp1 rfl).Gl;have:=key _ _ _ false e1 rfl;exact⟨_,_,rfl,rfl,this,by cases ne<;>exact .one (.inl (.bool _)),fun _=>trivial⟩
  |arr id gen off len sz=>
   cases hs;obtain⟨b,base,n,cap,b',o',_,_,_,_,e1⟩:=(Ba hi hkd hy1 hp1 rfl).Gp;have:=key _ _ _ false e1 rfl;exact⟨_,_,rfl,rfl,this,by cases ne<;>exact .one (.inl (.bool _)),fun _=>trivial⟩
  |empt=>
   cases hs;obtain⟨ad,e1⟩:=(Ba hi hkd hy1 hp1 rfl).Iq;have:=key _ _ _ false e1 rfl;exact⟨_,_,rfl,rfl,this,by cases ne<;>exact .one (.inl (.bool _)),fun _=>trivial⟩
  |_=>simp[AJ] at hs
 |_=>simp[AJ] at hs
theorem nY(hi:Inv cx G a w A σ)(hkd:∀t,cx.kd t=fi.kind t)(hnt:cx.nt=fi.nt){o:Oper}{t:TypeId}{s d:Nat}(ho:o.op=.load t (.tmp s))(hod:o.dst=some d)(hk:cx.kd s=.box){n k:Nat}(hn:Ci P t=some (n,true))
  (hd:CJ fi d=true) (hrun:BV pur call { dst:=some d,k:=.w (.ldz n k),args:=[.slot s],ex:=[s] } A σ=some (A',σ')):Gives P cx o a w A' σ':=by
 obtain⟨vs,rs,he,hs,hA,_⟩:=Hl hrun;obtain⟨c,qs,rfl,hp,hq⟩:=Au he;cases hq;have hdv:=En hkd hnt hd;have hne:d≠s:=by rintro rfl;rw[hk] at hdv;simp[SK.val] at hdv
 obtain⟨hg,_⟩:=Dr hp;simp only[sem] at hs
 have hsl:s<A.length:=by
  unfold Frm.get at hg;cases h:A[s]? with
  |none=>rw[h] at hg;cases hg
  |some _=>exact(Ab.1 h).1
 have key:∀{G':Gh} {σ1:Sto} {cs':List PV} {v:PV},Inv cx G' a w (A.set s (some (.agg cs'))) σ1→sub (.agg cs') 0 n true=some v→rs=[some v.Ag,some (.agg cs')]→σ'=σ1→Gives P cx o a w A' σ':=by
  intro G' σ1 cs' v hi' hv e1 e2;subst e1 e2;have hA':=hA rfl;have hvB:Tm (.agg cs') 0 n true=some v:=by unfold Tm;rw[hv]
  have hgs:Frm.get (A.set s (some (PV.agg cs'))) s=some (.agg cs'):=by rw[C8,if_pos ⟨rfl,hsl⟩]
  refine UJ (pur:=pur) (call:=call) hi' hkd hnt ho hk hn (by rw[hod];exact hd) ?_
  rw[hod];simp only[BV,BJ,hgs,sem,AJ,hvB,Ay,AOp.wr,Option.toList,BI,De,BD,if_true,Bh,CV];rw[hA'];simp only[AOp.wr,Option.toList,BD,Bh,CV,CF,BK];rw[List.set_comm _ _ (fun e=>hne e)]
 have hbox:=hi.slot s c hg;cases c with
 |agg cs=>
  simp only[Cq] at hs
  split at hs
  ·rename_i id gen off len size hx
   split at hs
   case h_2=>cases hs
   rename_i es hes
   split at hs
   case isFalse=>cases hs
   rename_i hfl;obtain⟨v,hv,e⟩:=Ac.1 hs;cases e;obtain⟨G',hi',hrep⟩:=RO hi hes hfl;refine key (hi'.reset ?_) hv rfl rfl
   obtain⟨b,hb,hcell⟩:=(Dz hk).1 hbox;obtain⟨b',hb',hcell'⟩:=(Dz hk).1 (hi'.slot s _ hg);rw[hb] at hb';cases hb';refine(Dz hk).2 ⟨b,hb,?_⟩
   obtain⟨c1,c2,cells,elem,c3,c4,c5⟩:=hcell';obtain⟨_,_,cells2,elem2,d3,d4,d5⟩:=hcell;rw[c3] at d3;cases d3;refine⟨c1,c2,cells,elem,c3,by rw[c4];simp[PV.cells],fun j p hp=>?_⟩
   simp only[PV.cells] at hp;rw[BO] at hp
   split at hp
   ·rename_i e;subst e
    split at hp
    ·cases hp;exact .inl ⟨.one (.inl (hrep _ ((d5 _ _ hx).rep (by simp)).1)),trivial⟩
    ·cases hp
   ·exact c5 j p hp
  ·obtain⟨v,hv,e⟩:=Ac.1 hs;cases e;exact key (hi.reset hbox) hv rfl rfl
 |_=>simp[Cq] at hs
theorem oo(hi:Inv cx G a w A σ)(hkd:∀t,cx.kd t=fi.kind t)(hnt:cx.nt=fi.nt){o:Oper}{t:TypeId}{x:Operand}{f:Nat}(ho:o.op=.field t x f)
  {fs:Array Field} {fl:Field} (hs':P.underlying t=some (.struct fs)) (hf:fs[f]?=some fl) {n:Nat} {ag:Bool} (hn:Ci P fl.type=some (n,ag))
  {az:List Ct} (hc:Aq fi [x]=some az) (hd:BA fi o.dst=true) (hrun:BV pur call { dst:=o.dst,k:=.p (.fld fl.offset n ag),args:=az } A σ=some (A',σ')):Gives P cx o a w A' σ':=by
 refine F3 hi hkd hnt hd hrun fun vs rs he hs=>?_
 obtain⟨y,zs,rfl,hy,hz⟩:=AL hc;cases hz;obtain⟨p,qs,rfl,hp,hq⟩:=Au he;cases hq;cases p with
 |agg ps=>
  obtain⟨cs,hv,hsz,hr⟩:=(Ba hi hkd hy hp rfl).Qq;simp only[AJ] at hs;obtain⟨v,hsub,e⟩:=Ac.1 hs;cases e;have hsc:=Mf hsub;have hfit:=XK hsub;cases ag with
  |true=>
   cases v with
   |agg qs=>
    simp[fits] at hfit;refine⟨_,.agg (cs.extract fl.offset (fl.offset+n)),rfl,rfl,?_,?_,fun _=>Cj (.agg qs)⟩
    ·simp[execOp,ho,Instr.field,underlying,hs',hf,hv,asAgg,part,GR hn,run_sizeOf hn]
    ·have hle:fl.offset+n≤ps.length:=by
      unfold sub at hsub;dsimp only at hsub
      split at hsub
      ·rename_i h;exact h.1
      ·cases hsub
     refine(Bu.one (.inl (.agg (by simp[hfit];omega) fun i p hp=>?_))).Ag
     have hlt:=(Ab.1 hp).1;have:=hr _ _ (hsc i p hp)
     have e:(cs.extract fl.offset (fl.offset+n)).getD i undef=cs.getD (fl.offset+i) undef:=by
      rw[Ah,Array.getElem?_extract,if_pos (by omega),Ah]
     rw[e];exact this
   |_=>simp[fits] at hfit
  |false=>
   have hvc:v.cells=[v]:=by cases v<;>first | rfl | simp[fits] at hfit
   have h0:=hsc 0 v (by rw[hvc];rfl)
   have hlt:=(Ab.1 h0).1;have hrep:=hr _ _ h0;simp only[PV.cells,Nat.add_zero] at hlt hrep;refine⟨_,cs.getD fl.offset undef,rfl,by rw[C9];exact QR hrep,?_,(Bu.one (.inl hrep)).Ag,fun _=>Cj v⟩
   have hcs:fl.offset<cs.size:=by omega
   simp[execOp,ho,Instr.field,underlying,hs',hf,hv,asAgg,part,GR hn,hcs,Array.getD]
 |_=>simp[AJ] at hs
theorem Vx(w:World)(b k:Nat):Kc b w (w.freeze ⟨b,k,none⟩ 1):=by
 unfold World.freeze;rw[if_neg (by decide)]
 exact⟨fun j hj=>by simp[Ch,Ne.symm hj],by simp,rfl,rfl,rfl⟩
theorem Vw{b k:Nat}{cs:Array Value}{elem:TypeId}{fz:Nat×Nat}(h:w.heap[b]?=some (.cells cs elem fz)):∃fz',(w.freeze ⟨b,k,none⟩ 1).heap[b]?=some (.cells cs elem fz'):=by
 unfold World.freeze;rw[if_neg (by decide)]
 obtain⟨lo,hi⟩:=fz;refine⟨if lo==hi then(k,k+1) else(min lo k,max hi (k+1)),?_⟩
 simp only[Ch,if_true,h,Ay]
theorem oG(hi:Inv cx G a w A σ)(hkd:∀t,cx.kd t=fi.kind t)(hnt:cx.nt=fi.nt){o:Oper}{s t e e':TypeId}{u d:Nat}(ho:o.op=.convert s t (.tmp u))(hst:s=t)(hod:o.dst=some d)
  (hs:P.underlying s=some (.slice e')) (ht:P.underlying t=some (.slice e)) (he:P.underlying e=some (.int .u8))
  {az:List Ct} (hc:Aq fi [.tmp u]=some az) (hd:CJ fi d=true) (hu:CJ fi u=true) (hne:d≠u)
  (hrun:BV pur call { dst:=some d,k:=.p .cvi,args:=az,ex:=[u] } A σ=some (A',σ')):Gives P cx o a w A' σ':=by
 subst hst;obtain⟨vs,rs,hea,hsem,rfl,hA⟩:=iE hrun;obtain⟨y,zs,rfl,hy,hz⟩:=AL hc;cases hz;obtain⟨p,qs,rfl,hp,hq⟩:=Au hea;cases hq
 have hyy:y=.slot u:=by
  simp only[EK] at hy
  split at hy<;>first | (split at hy<;>first | (cases hy;rfl) | cases hy) | cases hy
 subst hyy;cases p with
 |slice own sz es=>
  cases own with
  |false=>simp[AJ] at hsem
  |true=>
   simp only[AJ] at hsem
   split at hsem
   case isFalse=>cases hsem
   rename_i hsz;subst hsz;cases hsem;rw[hA _ _ rfl];have huv:=En hkd hnt hu;have hdv:=En hkd hnt hd;obtain⟨hrep,how⟩:=Lc hi huv.2 hp rfl;obtain⟨b,off,cap,cs,elem,ev,hω,hIn,hIt,hheap,hcs,h0,hle⟩:=how
   let w':=w.freeze ⟨b,cs.size,none⟩ 1
   let G':=G.shut b fun _=>False
   have hob:=Vx w b cs.size
   have hcell:∀j,w'.cell? ⟨b,j,none⟩=w.cell? ⟨b,j,none⟩:=by
    intro j;obtain⟨fz',hf⟩:=Vw (k:=cs.size) hheap;show World.cell? (w.freeze _ _) _=_;simp only[World.cell?,hf,hheap]
   have hsame:Same G.I w w':=by
    refine⟨fun b' j h=>?_,fun b' h=>hob.other _ (fun e=>hIn (e▸h))⟩
    by_cases hb:b'=b
    ·subst hb;exact hcell j
    ·exact cell_of_heap (hob.other _ hb)
   have hext:Ext (fun tg=>tg=.slot u none∨tg=.slot d none) G G' w w':=by
    refine⟨fun _ _ h=>.inl h,hsame,Bl.le_refl _,fun _ _ _ _=>rfl,fun b' tg h hX=>?_⟩
    have hbb:b'≠b:=by
     intro e;subst e;rw[hω] at h;cases h;exact hX (.inl rfl)
    refine⟨by simp[G',Gh.shut,hbb,h],hob.other _ hbb,fun x hx=>?_⟩
    rcases hx with hx | ⟨_,hx⟩
    ·exact hx
    ·exact hx.elim
   have hnK:=(hi.base.own b _ hω).2
   have hbase:Base cx G' w':=by
    have hb0:=MF hi.base hω (fun _=>False)
    refine⟨fun b' hK=>?_,hi.base.same.trans hsame hi.base.sub,hb0.sub,hb0.new,fun b' x h=>?_,fun b' tg h=>?_,hb0.Klt,?_,hb0.bl,?_,?_,?_⟩
    ·rw[hob.other _ (fun e=>hnK (e▸hK))];exact hb0.keep b' hK
    ·rw[hob.size];exact hb0.lt b' x h
    ·rw[hob.size];exact hb0.own b' tg h
    ·rw[hob.size];exact hb0.grow
    ·rw[hob.os];exact hb0.os
    ·rw[hob.tape];exact hb0.tape
    ·rw[hob.output];exact hb0.output
   have hev:a.eval (.tmp u)=at' a u:=rfl
   have hrun':(execOp a.eval o).run P w=.ok (.value (at' a u)) w':=by
    have hsh:w.shape? b=some (elem,cs.size):=by simp[World.shape?,hheap]
    simp only[execOp,ho,hev,ev,convert,underlying];simp[hs,he,markStringish,hsh];rw[hs] at ht;cases ht;simp[he,markStringish,hsh];rfl
   refine .inl ⟨at' a u,w',hrun',G',?_⟩
   rw[hod];have hrep':=(hrep.mono hext.I hext.same hext.bl).Ag;exact hi.iK hdv huv hext hbase rfl rfl rfl hrep' (fun _=>trivial) (by rw[FO _ _ _ _ (fun e=>hne (Option.some.inj e))];exact hrep') (fun _ _=>trivial)
 |_=>simp[AJ] at hsem
end
end Go.Abs

namespace Go.Abs
open Go.RowKit
def FJ(I:Imm)(bl:Bl)(w:World)(vs:List Value)(ps:List PV):Prop:=
 vs.length=ps.length∧∀(i:Nat) (p:PV),ps[i]?=some p→∃v,vs[i]?=some v∧Bu I bl w v p
theorem FJ.append{I:Imm}{bl:Bl}{w:World}{vs ws:List Value}{ps qs:List PV}(h:FJ I bl w vs ps)(k:FJ I bl w ws qs):FJ I bl w (vs++ws) (ps++qs):=by
 refine⟨by simp[h.1,k.1],fun i p hp=>?_⟩
 by_cases hi:i<ps.length
 ·rw[Ae hi] at hp;obtain⟨v,h1,h2⟩:=h.2 i p hp;exact⟨v,by rw[Ae (by rw[h.1];exact hi)];exact h1,h2⟩
 ·rw[Al (by omega)] at hp
  obtain⟨v,h1,h2⟩:=k.2 _ p hp;exact⟨v,by rw[Al (by rw[h.1];omega),h.1];exact h1,h2⟩
theorem FJ.Ag{I:Imm}{bl:Bl}{w:World}{vs:List Value}{ps:List PV}(h:FJ I bl w vs ps):FJ I bl w vs (ps.map PV.Ag):=by
 refine⟨by simp[h.1],fun i p hp=>?_⟩
 rw[Af] at hp;obtain⟨q,hq,rfl⟩:=Ac.1 hp;obtain⟨v,h1,h2⟩:=h.2 i q hq;exact⟨v,h1,h2.Ag⟩
structure Pre(K:Nat→Prop)(G:Gh)(w:World)(σ:Sto):Prop where
 lt:∀b x,G.I b x→b<w.heap.size
 Klt:KOk K w
 own:∀b tag,G.ω b=some tag→b<w.heap.size∧¬K b
 obj:∀(id:Nat) (cs:List PV),σ[id]?=some cs→Gx G w id cs
 len:G.bl.l.length=σ.length
 abl:∀id g a,G.bl.ab id g=some a→id<σ.length
structure Aft(K:Nat→Prop)(G:Gh)(w:World)(σ':Sto)(G':Gh)(w':World):Prop where
 keep:∀b,K b→w'.heap[b]?=w.heap[b]?
 same:Same G.I w w'
 sub:∀b x,G.I b x→G'.I b x
 new:∀b x,G'.I b x→G.I b x∨¬K b
 lt:∀b x,G'.I b x→b<w'.heap.size
 own:∀b tag,G'.ω b=some tag→b<w'.heap.size∧¬K b
 grow:w.heap.size≤w'.heap.size
 bl:G.bl.le G'.bl
 os:w'.os=w.os
 tape:w'.tape=w.tape
 output:w'.output=w.output
 obj:∀(id:Nat) (cs:List PV),σ'[id]?=some cs→Gx G' w' id cs
 len:G'.bl.l.length=σ'.length
 abl:∀id g a,G'.bl.ab id g=some a→id<σ'.length
def He(P:Program)(f:FuncId):Prop:=∃fn,P.funcs[f]?=some fn∧(fn.name == "runtime.NumGoroutine")=false∧fn.body.isNone=false
def Jp(P:Program)(f:FuncId)(args:List PV)(σ:Sto)(r:PV)(σ':Sto):Prop:=
 He P f∧∀(n:Nat) (vs:Array Value) (w:World) (G:Gh) (K:Nat→Prop),FJ G.I G.bl w vs.toList args→Pre K G w σ→
  CallsIn (FW none) n P f vs w fun e w'=>∃v G',e=.returned v∧Bu G'.I G'.bl w' v r∧Aft K G w σ' G' w'
def EW(P:Program)(call:Caller):Prop:=
 ∀f args σ r σ',(∀p∈args,p.Ag=p)→call f args σ=some (r,σ')→Jp P f args σ r σ'
theorem MU(p:PV):p.Ag.Ag=p.Ag:=by
 cases p with
 |agg cs=>
  simp only[PV.Ag,List.map_map,PV.agg.injEq];apply D5;intro x _;cases x<;>rfl
 |aggr cs=>
  simp only[PV.Ag,List.map_map,PV.aggr.injEq];apply D5;intro x _;cases x<;>rfl
 |_=>rfl
section
variable{P:Program}{pur:FuncId→Bool}{call:Caller}{fi:FI}{cx:Cx}{G:Gh}{a:Act}{w:World}{A A':Frm}{σ σ':Sto}
theorem Zf{ro ro':Option Nat}{n m:Nat}{f:FuncId}{vs:Array Value}{R:Ending→World→Prop}(h:CallsIn (FW ro) n P f vs w R):CallsIn (FW ro') m P f vs w R:=
 ⟨trivial,fun cs _=>h.2 cs (fun _ hd=>by cases hd)⟩
theorem Qs{ro:Option Nat}{n:Nat}{o:Oper}{c:Call}{K:Act→World→Prop}{Q:Exit→Act→World→Prop}(ho:o.op=.call c){x:Operand}(hcal:c.callee=.value x){f:FuncId}{fs cs:Array Value}(hx:a.eval x=.func (.func f) fs cs)
  (hent:He P f) (h:CallsIn (FW none) 0 P f (fs++c.args.map a.eval++cs) w fun e w'=>∃v,e=.returned v∧K (a.put o.dst v) w'):o.wpIn (FW ro) n P a w K Q:=by
 obtain⟨fn,hf,hname,hbody⟩:=hent;refine⟨fun _ _=>trivial,?_⟩
 rw[Oper.semAt_eq _ _ _ (by simp[ho])]
 have hrun:(execOp a.eval o).run P w=.ok (.enter f (fs++c.args.map a.eval++cs)) w:=by
  have h1:¬fn.name = "runtime.NumGoroutine" := by simpa using hname
  have h2:¬fn.body=none:=fun e=>by rw[e] at hbody;cases hbody
  simp[execOp,ho,resolve,hcal,hx,Deferred.ofValue,invoke,callFunc,hf,h1,h2]
 rw[hrun,Oper.uponIn_enter];refine⟨fun h=>by simp[FW] at h,(Zf h).mono fun e w'=>?_⟩
 rintro⟨v,rfl,hk⟩
 exact hk
theorem Gx.congr{G':Gh}{id:Nat}{cs:List PV}(hI:G'.I=G.I)(hω:∀b i j,G.ω b=some (.obj i j)→G'.ω b=some (.obj i j))(hbl:G'.bl=G.bl)(h:Gx G w id cs):Gx G' w id cs:=by
 obtain⟨b,h1,hh⟩:=h;refine⟨b,by rw[hbl];exact h1,?_⟩
 rcases hh with⟨h2,h3,cs',elem,h4,h5,h6⟩ | ⟨t,e,l,rfl,h2,h3,p,v,hp,h4,h5,h6⟩ | h | ⟨gen,size,es,rfl,b1,base,n,cs,elem,g1,g2,g3,g4,g5,g6,g7,g8,g9⟩ | ⟨d,z,ks,vs,rfl,m1,m2,m3,es,m4,m5,m6⟩ | ⟨mid,since,seen,rfl,m1,m2,m,m3,m4⟩
 rotate_left
 ·refine .inr (.inl ⟨t,e,l,rfl,hω _ _ _ h2,by rw[hI];exact h3,p,v,hp,h4,h5,fun g hg=>?_⟩)
  obtain⟨e1,e2,e3⟩:=h6 g hg;exact⟨e1,hω _ _ _ e2,by rw[hI];exact e3⟩
 ·exact .inr (.inr (.inl h))
 ·exact .inr (.inr (.inr (.inl ⟨gen,size,es,rfl,b1,base,n,cs,elem,by rw[hbl];exact g1,by rw[hbl];exact g2,hω _ _ _ g3,by rw[hI];exact g4,g5,g6,g7,g8,by rw[hI,hbl];exact g9⟩)))
 ·exact .inr (.inr (.inr (.inr (.inl ⟨d,z,ks,vs,rfl,hω _ _ _ m1,by rw[hI];exact m2,m3,es,m4,m5,by rw[hI,hbl];exact m6⟩))))
 ·exact .inr (.inr (.inr (.inr (.inr ⟨mid,since,seen,rfl,hω _ _ _ m1,by rw[hI];exact m2,m,by rw[hbl];exact m3,m4⟩))))
 refine .inl ⟨hω _ _ _ h2,by rw[hI];exact h3,cs',elem,h4,h5,fun j p hp=>?_⟩
 rcases h6 j p hp with⟨hr,ho⟩ | hself
 rotate_left
 ·exact .inr hself
 refine .inl ⟨by rw[hI,hbl];exact hr,?_⟩
 unfold Eb at ho ⊢;split
 ·rename_i size es;obtain⟨b',off,cap,cs2,elem2,e1,e2,e3,e4,e5,e6,e7,e8⟩:=ho;exact⟨b',off,cap,cs2,elem2,e1,hω _ _ _ e2,by rw[hI];exact e3,by rw[hI];exact e4,e5,e6,e7,e8⟩
 ·trivial
def Gh.Vi(G:Gh):Gh:=⟨G.I,fun b=>match G.ω b with | some (.obj i j)=>some (.obj i j) | _=>none,G.bl⟩
def Gh.Rp(G:Gh)(w:World)(b:Nat):Prop:=b<w.heap.size∧∀i j,G.ω b≠some (.obj i j)
def Gh.back(G:Gh)(w:World)(G1:Gh):Gh:=⟨G1.I,fun b=>match G1.ω b with | some (.obj i j)=>some (.obj i j) | _=>if b<w.heap.size then(match G.ω b with | some (.slot t j)=>some (.slot t j) | _=>none) else none,G1.bl⟩
theorem Xg{b i:Nat}{j:Option Nat}:G.Vi.ω b=some (.obj i j)↔G.ω b=some (.obj i j):=by
 simp only[Gh.Vi];split
 ·rename_i i' j' h;rw[h]
 ·rename_i h;constructor
  ·intro h';cases h'
  ·intro h';exact absurd h' (h i j)
theorem VN(hi:Inv cx G a w A σ){b:Nat}(h:cx.K b):G.Rp w b:=
 ⟨Bn (hi.base.Klt b h) hi.base.grow,fun i j he=>(hi.base.own b _ he).2 h⟩
theorem Qc(hi:Inv cx G a w A σ){b:Nat}{cs:Array Value}(h:tabs b=some cs):cx.K b∧∃t f,w.heap[b]?=some (.cells cs t f):=by
 obtain⟨h1,t,f,h2⟩:=hi.base.Klt.tab b cs h;exact⟨h1,t,f,(hi.base.keep b h1).trans h2⟩
theorem iU(hi:Inv cx G a w A σ):Pre (G.Rp w) G.Vi w σ:=by
 refine⟨hi.base.lt,⟨fun b h=>h.1,fun b o h=>⟨VN hi (Qc hi h).1,(Qc hi h).2⟩⟩,fun b tag h=>?_,fun id cs h=>Gx.congr (G:=G) (G':=G.Vi) rfl (fun b i j h=>Xg.2 h) rfl (hi.obj id cs h),hi.len,hi.abl⟩
 have:∃i j,tag=.obj i j:=by
  simp only[Gh.Vi] at h
  split at h
  ·cases h;exact⟨_,_,rfl⟩
  ·cases h
 obtain⟨i,j,rfl⟩:=this;rw[Xg] at h;exact⟨(hi.base.own b _ h).1,fun hk=>hk.2 i j h⟩
theorem ma{G1:Gh}{b i:Nat}{j:Option Nat}(h:G1.ω b=some (.obj i j)):(G.back w G1).ω b=some (.obj i j):=by
 simp only[Gh.back,h]
theorem lN{G1:Gh}{w':World}{σ1:Sto}(ha:Aft (G.Rp w) G.Vi w σ1 G1 w')(hi:Inv cx G a w A σ):Ext (fun tg=>∃i j,tg=.obj i j) G (G.back w G1) w w':=by
 refine⟨ha.sub,ha.same,ha.bl,fun id _ hX=>absurd ⟨id,none,rfl⟩ (hX none),fun b tag h hX=>?_⟩
 cases tag with
 |obj i j=>exact absurd ⟨i,j,rfl⟩ hX
 |slot t j=>
  have hK:G.Rp w b:=⟨(hi.base.own b _ h).1,fun i j he=>by rw[h] at he;cases he⟩
  have hn:G1.ω b=none:=by
   cases hg:G1.ω b with
   |none=>rfl
   |some tag=>exact absurd hK (ha.own b tag hg).2
  refine⟨by simp only[Gh.back,hn,hK.1,if_true,h],ha.keep b hK,fun x hx=>?_⟩
  rcases ha.new b x hx with h' | h'
  ·exact h'
  ·exact absurd hK h'
theorem dP{G1:Gh}{w':World}{σ1:Sto}(ha:Aft (G.Rp w) G.Vi w σ1 G1 w')(hi:Inv cx G a w A σ):Base cx (G.back w G1) w':=by
 refine⟨fun b h=>?_,hi.base.same.trans ha.same hi.base.sub,fun b x h=>ha.sub b x (hi.base.sub b x h),fun b x h=>?_,ha.lt,fun b tag h=>?_,hi.base.Klt,BM hi.base.grow ha.grow,hi.base.bl.trans ha.bl,ha.os.trans hi.base.os,ha.tape.trans hi.base.tape,ha.output.trans hi.base.output⟩
 ·rw[ha.keep b (VN hi h)];exact hi.base.keep b h
 ·rcases ha.new b x h with h' | h'
  ·exact hi.base.new b x h'
  ·exact .inr fun hk=>h' (VN hi hk)
 ·simp only[Gh.back] at h
  split at h
  ·rename_i i j hg;cases h;have:=ha.own b _ hg;exact⟨this.1,fun hk=>this.2 (VN hi hk)⟩
  ·split at h
   ·rename_i hlt
    split at h
    ·rename_i t j hg;cases h;exact⟨Bn hlt ha.grow,(hi.base.own b _ hg).2⟩
    ·cases h
   ·cases h
theorem lh{G1:Gh}{w':World}{v:Value}{r:PV}(hi:Inv cx G a w A σ)(ha:Aft (G.Rp w) G.Vi w σ' G1 w')(dst:Option Nat)(hdst:∀d,dst=some d→d<cx.nt∧(cx.kd d).val=true)
  (hr:Bu G1.I G1.bl w' v r):Inv cx (G.back w G1) (a.put dst v) w' (GA A dst r.Ag) σ':=by
 have hvr:=hr.Ag;refine hi.step _ dst v (lN ha hi) (dP ha hi) (by cases dst<;>simp[GA]) ?_ (fun id cs hc=>.inr (Gx.congr (G:=G1) (G':=G.back w G1) rfl (fun b i j h=>ma h) rfl (ha.obj id cs hc))) ha.len ha.abl
 intro t q hq;cases dst with
 |none=>exact .inl ⟨hq,by simp,fun j h=>(by obtain⟨_,_,h⟩:=h;cases h),fun _ _ _ _=>by simp,fun _ _=>⟨by simp,fun h=>by obtain⟨_,_,h⟩:=h;cases h⟩⟩
 |some d=>
  obtain⟨hd1,hd2⟩:=hdst d rfl;simp only[GA,C8] at hq
  split at hq
  ·rename_i hc;cases hq;refine .inr ?_
   rw[hc.1,BL hd2 hvr.free,EL _ _ _ (by rw[hi.size];exact hd1)]
   exact⟨hvr,Cj r⟩
  ·rename_i hc;have hne:d≠t:=fun e=>hc ⟨e.symm,by have:=hi.room;omega⟩
   refine .inl ⟨hq,fun e=>hne (Option.some.inj e),fun j h=>(by obtain⟨_,_,h⟩:=h;cases h),fun d' off e hbx e'=>?_,fun m hm=>⟨fun e'=>?_,fun h=>by obtain⟨_,_,h⟩:=h;cases h⟩⟩
   ·cases e';rw[hbx] at hd2;simp[SK.val] at hd2
   ·cases e';obtain⟨keys,hk⟩:=cx.ents t d hm;rw[hk] at hd2;simp[SK.val] at hd2
def Gh.bare(G:Gh):Gh:=⟨G.I,fun _=>none,Bl.nil⟩
def Gh.after(G:Gh)(w:World)(G1:Gh):Gh:=⟨G1.I,fun b=>if b<w.heap.size then G.ω b else none,G.bl⟩
theorem iV(hi:Inv cx G a w A σ):Pre (fun b=>b<w.heap.size) G.bare w []:=
 ⟨hi.base.lt,⟨fun b h=>h,fun b o h=>⟨Bn (hi.base.Klt b (Qc hi h).1) hi.base.grow,(Qc hi h).2⟩⟩,fun b tag h=>(by cases h),fun id cs h=>(by simp at h),rfl,fun id g a h=>(by cases h)⟩
theorem di{G1:Gh}{w':World}{v:Value}{r:PV}(hi:Inv cx G a w A σ)(ha:Aft (fun b=>b<w.heap.size) G.bare w σ' G1 w')(dst:Option Nat)(hdst:∀d,dst=some d→d<cx.nt∧(cx.kd d).val=true)
  (hr:Bu G1.I G1.bl w' v r) (hf:r.flat=true):Inv cx (G.after w G1) (a.put dst v) w' (GA A dst r.Ag) σ:=by
 have hrep:=(hr.flat hf).Ag
 have hext:Ext (fun _=>False) G (G.after w G1) w w':=by
  refine⟨ha.sub,ha.same,Bl.le_refl _,fun _ _ _ _=>rfl,fun b tag h _=>?_⟩
  have hlt:=(hi.base.own b tag h).1;refine⟨by simp only[Gh.after,hlt,if_true,h],ha.keep b hlt,fun x hx=>?_⟩
  rcases ha.new b x hx with h' | h'
  ·exact h'
  ·exact absurd hlt h'
 have hbase:Base cx (G.after w G1) w':=by
  have hK:∀b,cx.K b→b<w.heap.size:=fun b h=>Bn (hi.base.Klt b h) hi.base.grow
  refine⟨fun b h=>?_,hi.base.same.trans ha.same hi.base.sub,fun b x h=>ha.sub b x (hi.base.sub b x h),fun b x h=>?_,ha.lt,fun b tag h=>?_,hi.base.Klt,BM hi.base.grow ha.grow,hi.base.bl,ha.os.trans hi.base.os,ha.tape.trans hi.base.tape,ha.output.trans hi.base.output⟩
  ·rw[ha.keep b (hK b h)];exact hi.base.keep b h
  ·rcases ha.new b x h with h' | h'
   ·exact hi.base.new b x h'
   ·exact .inr fun hk=>h' (hK b hk)
  ·simp only[Gh.after] at h
   split at h
   ·rename_i hlt;exact⟨Bn hlt ha.grow,(hi.base.own b tag h).2⟩
   ·cases h
 exact hi.JK hext hbase rfl dst hdst (by rw[C9];exact hr.free) (.one (.inl hrep)) (fun _ _=>Cj r)
theorem Ka(hi:Inv cx G a w A σ)(hkd:∀t,cx.kd t=fi.kind t){xs:Array Operand}{az:List Ct}(hc:Aq fi xs.toList=some az){ps:List PV}(he:BJ A az=some ps)(hf:ps.all PV.free=true):
  FJ G.I G.bl w (xs.map a.eval).toList ps:=by
 obtain⟨hl,hr⟩:=Oc hi hkd hc he (fun p hp=>Ao.1 hf p hp)
 refine⟨by simpa using hl,fun i p hp=>?_⟩
 have hlt:i<xs.size:=by have:=(Ab.1 hp).1;simp at hl;omega
 have hx:xs.toList[i]?=some xs[i]:=by rw[Aw];exact Az hlt
 exact⟨a.eval xs[i],by simp[hlt],hr i _ p hx hp⟩
theorem FJ.bare{vs:List Value}{ps:List PV}(h:FJ G.I G.bl w vs ps)(hf:ps.all PV.flat=true):FJ G.I Bl.nil w vs ps:=
 ⟨h.1,fun i p hp=>let ⟨v,h1,h2⟩:=h.2 i p hp;⟨v,h1,.one (.inl (h2.flat (Ao.1 hf p (AA hp))))⟩⟩
theorem Vy(p:PV):p.Ag.flat=p.flat:=by cases p<;>rfl
theorem ND(ps:List PV):∀p∈ps.map PV.Ag,p.Ag=p:=by
 intro p hp;obtain⟨q,_,rfl⟩:=Ce.1 hp;exact MU q
theorem d9{o:Oper}{k:AK}{az:List Ct}{p:PV}(h1:([some p]:List (Option PV)).length=o.dst.toList.length+([]:List Nat).length→A'=CV A ({ dst:=o.dst,k:=k,args:=az }:AOp).wr ([some p]++([]:List Nat).map fun _=>none))
  (h2:([some p]:List (Option PV)).length≠o.dst.toList.length+([]:List Nat).length→A'=A∧o.dst=none):A'=GA A o.dst p:=by
 cases hdd:o.dst with
 |none=>
  rw[hdd] at h2;exact(h2 (by simp)).1
 |some d=>
  rw[hdd] at h1;rw[h1 rfl];simp[AOp.wr,CV,GA]
theorem O1{ro:Option Nat}{n:Nat}{o:Oper}{c:Call}{K:Act→World→Prop}{Q:Exit→Act→World→Prop}(hS:EW P call)(hi:Inv cx G a w A σ)(ho:o.op=.call c){x:Operand}(hcal:c.callee=.value x){f:FuncId}{fs cs:Array Value}(hx:a.eval x=.func (.func f) fs cs)
  (hdst:∀d,o.dst=some d→d<cx.nt∧(cx.kd d).val=true) {ps:List PV} (hargs:FJ G.I G.bl w (fs++c.args.map a.eval++cs).toList ps) {r:PV} {σ1:Sto}
  (hcall:call f (ps.map PV.Ag) σ=some (r,σ1)) (hk:∀a' w',Sim cx a' w' (GA A o.dst r.Ag) σ1→Kept o.dst a a'→K a' w'):o.wpIn (FW ro) n P a w K Q:=by
 obtain⟨hent,hcl⟩:=hS f _ σ r σ1 (ND ps) hcall;refine Qs ho hcal hx hent ((hcl 0 _ w G.Vi (G.Rp w) hargs.Ag (iU hi)).mono ?_)
 rintro e w' ⟨v,G1,rfl,hr,ha⟩
 exact⟨v,rfl,hk _ _ ⟨_,lh hi ha o.dst hdst hr⟩ (LD _ _ _)⟩
theorem Jl{ro:Option Nat}{n:Nat}{o:Oper}{c:Call}{K:Act→World→Prop}{Q:Exit→Act→World→Prop}(hS:EW P call)(hi:Inv cx G a w A σ)(ho:o.op=.call c){x:Operand}(hcal:c.callee=.value x){f:FuncId}{fs cs:Array Value}(hx:a.eval x=.func (.func f) fs cs)
  (hdst:∀d,o.dst=some d→d<cx.nt∧(cx.kd d).val=true) {ps:List PV} (hargs:FJ G.I G.bl w (fs++c.args.map a.eval++cs).toList ps) (hflat:(ps.map PV.Ag).all PV.flat=true) {r:PV} {σ1:Sto}
  (hcall:call f (ps.map PV.Ag) []=some (r,σ1)) (hrf:r.flat=true) (hk:∀a' w',Sim cx a' w' (GA A o.dst r.Ag) σ→Kept o.dst a a'→K a' w'):o.wpIn (FW ro) n P a w K Q:=by
 obtain⟨hent,hcl⟩:=hS f _ [] r σ1 (ND ps) hcall;refine Qs ho hcal hx hent ((hcl 0 _ w G.bare (fun b=>b<w.heap.size) (hargs.Ag.bare hflat) (iV hi)).mono ?_)
 rintro e w' ⟨v,G1,rfl,hr,ha⟩
 exact⟨v,rfl,hk _ _ ⟨_,di hi ha o.dst hdst hr hrf⟩ (LD _ _ _)⟩
theorem IK{ps:List PV}(h:ps.all PV.flat=true):(ps.map PV.Ag).all PV.flat=true:=by
 rw[ET];rw[Ao] at h ⊢;intro p hp;simpa [Vy] using h p hp
theorem wF{ro:Option Nat}{n:Nat}{o:Oper}{c:Call}{K:Act→World→Prop}{Q:Exit→Act→World→Prop}(hS:EW P call)(hi:Inv cx G a w A σ)(hkd:∀t,cx.kd t=fi.kind t)(hnt:cx.nt=fi.nt)(ho:o.op=.call c){f:FuncId}(hcal:c.callee=.value (.func f))
  {az:List Ct} (hc:Aq fi c.args.toList=some az) (hd:BA fi o.dst=true) (hrun:BV pur call { dst:=o.dst,k:=.c f,args:=az } A σ=some (A',σ'))
  (hk:∀a' w',Sim cx a' w' A' σ'→Kept o.dst a a'→K a' w'):o.wpIn (FW ro) n P a w K Q:=by
 obtain⟨ps,rs,he,hs,hA1,hA2⟩:=Hl hrun;simp only[sem] at hs
 split at hs
 ·rename_i hf;simp only[Ak] at hf;obtain⟨⟨r,σ1⟩,hcall,hs⟩:=AO.1 hs;dsimp only at hs
  split at hs
  ·rename_i hrf;cases hs;have hA:=d9 hA1 hA2;subst hA;refine Jl hS hi ho hcal (f:=f) (fs:=#[]) (cs:=#[]) rfl (DC hkd hnt hd) (ps:=ps) ?_ (IK hf.2) hcall hrf hk
   simpa using Ka hi hkd hc he hf.1
  ·cases hs
 ·cases hs
theorem gH{ro:Option Nat}{n:Nat}{o:Oper}{c:Call}{K:Act→World→Prop}{Q:Exit→Act→World→Prop}(hS:EW P call)(hi:Inv cx G a w A σ)(hkd:∀t,cx.kd t=fi.kind t)(hnt:cx.nt=fi.nt)(ho:o.op=.call c){f:FuncId}(hcal:c.callee=.value (.func f))
  {az:List Ct} (hc:Aq fi c.args.toList=some az) (hd:BA fi o.dst=true) (hrun:BV pur call { dst:=o.dst,k:=.w (.call f),args:=az } A σ=some (A',σ'))
  (hk:∀a' w',Sim cx a' w' A' σ'→Kept o.dst a a'→K a' w'):o.wpIn (FW ro) n P a w K Q:=by
 obtain⟨ps,rs,he,hs,hA1,hA2⟩:=Hl hrun;simp only[sem,Cq] at hs
 split at hs
 ·rename_i hf
  split at hs
  ·split at hs
   ·rename_i hflat;obtain⟨⟨r,σ1⟩,hcall,hs⟩:=AO.1 hs;dsimp only at hs
    split at hs
    ·rename_i hrf;cases hs;have hA:=d9 hA1 hA2;subst hA;refine Jl hS hi ho hcal (f:=f) (fs:=#[]) (cs:=#[]) rfl (DC hkd hnt hd) (ps:=ps) ?_ (IK hflat) hcall hrf hk
     simpa using Ka hi hkd hc he hf
    ·cases hs
   ·cases hs
  ·obtain⟨⟨r,σ1⟩,hcall,hs⟩:=Ac.1 hs;cases hs;have hA:=d9 hA1 hA2;subst hA;refine O1 hS hi ho hcal (f:=f) (fs:=#[]) (cs:=#[]) rfl (DC hkd hnt hd) (ps:=ps) ?_ hcall hk
   simpa using Ka hi hkd hc he hf
 ·cases hs
theorem lC(ps:List PV){vs:List PV}{σ σ':Sto}(h:RP ps σ=some (vs,σ')){G:Gh}(hi:Inv cx G a w A σ):
  ∃G',Inv cx G' a w A σ'∧G'.bl=G.bl∧(∀b x,G.I b x→G'.I b x)∧vs.length=ps.length∧∀(i:Nat) (p q:PV),ps[i]?=some p→vs[i]?=some q→∀c,GL G.I G.bl w c p.D8→Rep G'.I w c q:=by
 have key:∀(ps vs:List PV) (σ σ':Sto),RP ps σ=some (vs,σ')→RP (ps.map PV.D8) σ=some (vs,σ'):=by
  intro ps
  induction ps with
  |nil=>intro vs σ σ' h;exact h
  |cons c cs ih=>
   intro vs σ σ' h;cases c with
   |arr id gen off len size=>
    simp only[RP,AR,PV.D8] at h ⊢
    split at h
    ·rename_i es hes
     split at h
     ·rename_i hfl;obtain⟨⟨us,σ1⟩,h1,e⟩:=Ac.1 h;cases e;simp only[hfl,if_true,ih _ _ _ h1,Ay]
     ·cases h
    ·cases h
   |_=>
    simp only[RP,AR,PV.D8] at h ⊢
    split at h
    ·rename_i hf;obtain⟨⟨us,σ1⟩,h1,e⟩:=Ac.1 h;cases e
     first
      |(rw[if_pos hf,ih _ _ _ h1];rfl)
      |(rw[if_pos (show PV.flat (.slice false _ _)=true from rfl),ih _ _ _ h1];rfl)
    ·cases h
 obtain⟨G',i1,i2,i3,i4,i5⟩:=OW _ (key ps vs σ σ' h) hi;refine⟨G',i1,i2,i3,by rw[i4,Am],fun i p q hp hq c hc=>i5 i p.D8 q (by rw[Af,hp];rfl) hq c hc⟩
theorem aZ{ro:Option Nat}{n:Nat}{o:Oper}{c:Call}{d:Nat}{K:Act→World→Prop}{Q:Exit→Act→World→Prop}(hS:EW P call)(hi:Inv cx G a w A σ)(hkd:∀t,cx.kd t=fi.kind t)(hnt:cx.nt=fi.nt)(ho:o.op=.call c){f:FuncId}(hcal:c.callee=.value (.func f))
  (hod:o.dst=some d) {az:List Ct} (hc:Aq fi c.args.toList=some az) (hd:BA fi o.dst=true) (hrun:BV pur call { dst:=o.dst,k:=.w (.callz f),args:=az } A σ=some (A',σ'))
  (hk:∀a' w',Sim cx a' w' A' σ'→Kept o.dst a a'→K a' w'):o.wpIn (FW ro) n P a w K Q:=by
 obtain⟨ps,rs,he,hs,hA1,hA2⟩:=Hl hrun;simp only[sem,Cq] at hs
 split at hs
 case isFalse=>cases hs
 rename_i hf;obtain⟨⟨r,σ1⟩,hcall,hs⟩:=AO.1 hs;obtain⟨⟨r',σ2⟩,hfz,hs⟩:=Ac.1 hs;cases hs;have hA:=d9 hA1 hA2;subst hA;have hdp:=DC hkd hnt hd;refine O1 hS hi ho hcal (f:=f) (fs:=#[]) (cs:=#[]) rfl hdp (ps:=ps) (by simpa using Ka hi hkd hc he hf) hcall (fun a' w' hsim hkept=>hk a' w' ?_ hkept)
 unfold u7 at hfz;dsimp only at hfz hcall hsim
 split at hfz
 ·rename_i cs;obtain⟨⟨us,σ3⟩,h1,e⟩:=Ac.1 hfz;cases e;obtain⟨G1,hi1⟩:=hsim;obtain⟨G',hi',hbl,hI,hlen',hrep⟩:=lC cs h1 hi1;rw[hod] at hi1 hi' ⊢;obtain⟨hd1,hd2⟩:=hdp d hod;have hlen:d<A.length:=by have:=hi.room;omega
  have hg:Frm.get (GA A (some d) (PV.aggr cs).Ag) d=some (.aggr (cs.map PV.D8)):=by
   simp only[GA,C8,hlen,and_self,if_true];rfl
  have hsl:=((BL hd2 rfl).1 (hi1.slot d _ hg)).1;obtain⟨vcs,ev,hsz,hr⟩:=hsl.LX
  have:=hi'.reset (d:=d) (p:=.agg us) ((BL hd2 rfl).2 ⟨.one (.inl (by
   rw[ev];refine .agg (by rw[hsz,Am,hlen']) fun i q hq=>?_
   have hil:i<cs.length:=by rw[←hlen'];exact(Ab.1 hq).1
   exact hrep i _ q (Ad hil) hq _ (hr i _ (by rw[Af,Ad hil];rfl)))),trivial⟩)
  simp only[GA,List.set_set] at this ⊢;exact⟨G',this⟩
 ·rename_i id gen off len size
  split at hfz
  case h_2=>cases hfz
  rename_i es hes
  split at hfz
  case isFalse=>cases hfz
  rename_i hfl;cases hfz;obtain⟨G1,hi1⟩:=hsim;obtain⟨G',hi',hrep⟩:=RO hi1 hes hfl;rw[hod] at hi1 hi' ⊢;obtain⟨hd1,hd2⟩:=hdp d hod;have hlen:d<A.length:=by have:=hi.room;omega
  have hg:Frm.get (GA A (some d) (PV.arr id gen off len size).Ag) d=some (.arr id gen off len size):=by
   simp only[GA,C8,hlen,and_self,if_true];rfl
  have hsl:=((BL hd2 rfl).1 (hi1.slot d _ hg)).1;have:=hi'.reset (d:=d) (p:=.slice false size es) ((BL hd2 rfl).2 ⟨.one (.inl (hrep _ hsl)),trivial⟩);simp only[GA,List.set_set] at this ⊢;exact⟨G',this⟩
 ·cases hfz;exact hsim
theorem Ta{fs:Array Value}{ps:List PV}(h1:fs.size=ps.length)(hf:∀(i:Nat) (p:PV),ps[i]?=some p→GL G.I G.bl w (fs.getD i undef) p):FJ G.I G.bl w fs.toList ps:=by
 refine⟨by simpa using h1,fun i p hp=>?_⟩
 have hlt:i<fs.size:=by have:=(Ab.1 hp).1;omega
 exact⟨fs.getD i undef,by simp[Array.getD,hlt],.one (hf i p hp)⟩
theorem bf{ro:Option Nat}{n:Nat}{o:Oper}{c:Call}{K:Act→World→Prop}{Q:Exit→Act→World→Prop}(hS:EW P call)(hi:Inv cx G a w A σ)(hkd:∀t,cx.kd t=fi.kind t)(hnt:cx.nt=fi.nt)(ho:o.op=.call c){x:Operand}(hcal:c.callee=.value x)
  {az:List Ct} (hc:Aq fi (x::c.args.toList)=some az) (hd:BA fi o.dst=true) (hrun:BV pur call { dst:=o.dst,k:=.w .calld,args:=az } A σ=some (A',σ'))
  (hk:∀a' w',Sim cx a' w' A' σ'→Kept o.dst a a'→K a' w'):o.wpIn (FW ro) n P a w K Q:=by
 obtain⟨ps,rs,he,hs,hA1,hA2⟩:=Hl hrun;obtain⟨y,zs,rfl,hy,hz⟩:=AL hc;obtain⟨p,qs,rfl,hp,hq⟩:=Au he;simp only[sem] at hs;cases p with
 |func f first cap=>
  obtain⟨fs,cs,hx,h1,h2,h3,h4⟩:=(Ba hi hkd hy hp rfl).J3;simp only[Cq] at hs
  split at hs
  ·rename_i hf
   have hargs:FJ G.I G.bl w (fs++c.args.map a.eval++cs).toList (first++qs++cap):=by
    rw[Array.toList_append,Array.toList_append];exact((Ta h1 h3).append (Ka hi hkd hz hq hf)).append (Ta h2 h4)
   split at hs
   ·split at hs
    ·rename_i hflat;obtain⟨⟨r,σ1⟩,hcall,hs⟩:=AO.1 hs;dsimp only at hs
     split at hs
     ·rename_i hrf;cases hs;have hA:=d9 hA1 hA2;subst hA;exact Jl hS hi ho hcal hx (DC hkd hnt hd) hargs hflat hcall hrf hk
     ·cases hs
    ·cases hs
   ·obtain⟨⟨r,σ1⟩,hcall,hs⟩:=Ac.1 hs;cases hs;have hA:=d9 hA1 hA2;subst hA;exact O1 hS hi ho hcal hx (DC hkd hnt hd) hargs hcall hk
  ·cases hs
 |_=>simp[Cq] at hs
end
end Go.Abs
