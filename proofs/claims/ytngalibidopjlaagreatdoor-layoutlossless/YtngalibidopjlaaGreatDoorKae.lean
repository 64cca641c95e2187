/- A part of the proof: A34 A27. -/
import Derived.Test.YtngalibidopjlaaGreatDoorKad

set_option linter.unusedVariables false
set_option linter.unusedSimpArgs false
namespace Go.Abs
open Go.RowKit
section
variable{P:Program}{pur:FuncId→Bool}{call:Caller}{fi:FI}{cx:Cx}{G:Gh}{a:Act}{w:World}{A A':Frm}{σ σ':Sto}
theorem RepT.own0{I:Imm}{bl:Bl}{v:Value}{p:PV}(h:RepT I bl w v p):RepT I bl w v p.own0:=by
 cases p with
 |slice own sz es=>exact h.Aq0
 |_=>exact h
theorem disown_cells(p:PV):p.Aq0.cells=p.cells.map PV.own0:=by cases p<;>rfl
def RowT(I:Imm)(bl:Bl)(w:World)(size:Nat)(cs:List Value)(es:List PV):Prop:=
 cs.length=es.length * size∧(∀(i:Nat) (e:PV),es[i]?=some e→e.cells.length=size)∧
 ∀(i:Nat) (e:PV) (j:Nat) (p:PV),es[i]?=some e→e.cells[j]?=some p→∃c,cs[i * size+j]?=some c∧RepT I bl w c p
theorem RowT.of_row{I:Imm}{bl:Bl}{size:Nat}{cs:List Value}{es:List PV}(h:RowOk I w size cs es):RowT I bl w size cs es:=
 ⟨h.1,h.2.1,fun i e j p he hp=>let ⟨c,h1,h2⟩:=h.2.2 i e j p he hp;⟨c,h1,.one (.inl h2)⟩⟩
theorem RowT.mono{I I':Imm}{bl bl':Bl}{w w':World}{size:Nat}{cs:List Value}{es:List PV}(h:RowT I bl w size cs es)(hI:∀b x,I b x→I' b x)(hs:Same I w w')(hb:bl.le bl'):RowT I' bl' w' size cs es:=
 ⟨h.1,h.2.1,fun i e j p he hp=>let ⟨c,h1,h2⟩:=h.2.2 i e j p he hp;⟨c,h1,h2.mono hI hs hb⟩⟩
theorem RowT.nil(I:Imm)(bl:Bl)(w:World)(size:Nat):RowT I bl w size [] []:=⟨by simp,fun i e h=>by simp at h,fun i e j p h=>by simp at h⟩
theorem RowT.append{I:Imm}{bl:Bl}{size:Nat}{cs ds:List Value}{es fs:List PV}(h:RowT I bl w size cs es)(k:RowT I bl w size ds fs):RowT I bl w size (cs++ds) (es++fs):=by
 refine⟨by simp[h.1,k.1,Nat.add_mul],fun i e he=>?_,fun i e j p he hp=>?_⟩
 ·by_cases hi:i<es.length
  ·rw[List.getElem?_append_left hi] at he;exact h.2.1 i e he
  ·rw[List.getElem?_append_right (by omega)] at he;exact k.2.1 _ e he
 ·by_cases hi:i<es.length
  ·rw[List.getElem?_append_left hi] at he
   obtain⟨c,h1,h2⟩:=h.2.2 i e j p he hp;refine⟨c,?_,h2⟩
   rw[List.getElem?_append_left (List.getElem?_eq_some_iff.1 h1).1];exact h1
  ·rw[List.getElem?_append_right (by omega)] at he
   obtain⟨c,h1,h2⟩:=k.2.2 _ e j p he hp;refine⟨c,?_,h2⟩
   have hge:es.length * size≤i * size:=Nat.mul_le_mul_right _ (by omega)
   rw[List.getElem?_append_right (by rw[h.1];omega),h.1]
   rw[Nat.sub_mul] at h1;rw[show i * size+j - es.length * size=i * size - es.length * size+j from by omega]
   exact h1
theorem RowT.Aq0{I:Imm}{bl:Bl}{size:Nat}{cs:List Value}{es:List PV}(h:RowT I bl w size cs es):RowT I bl w size cs (es.map PV.Aq0):=by
 refine⟨by rw[List.length_map];exact h.1,fun i e he=>?_,fun i e j p he hp=>?_⟩
 ·rw[List.getElem?_map] at he
  obtain⟨e',he',rfl⟩:=Option.map_eq_some_iff.1 he;rw[AqP];exact h.2.1 i e' he'
 ·rw[List.getElem?_map] at he
  obtain⟨e',he',rfl⟩:=Option.map_eq_some_iff.1 he;rw[disown_cells,List.getElem?_map] at hp
  obtain⟨q,hq,rfl⟩:=Option.map_eq_some_iff.1 hp;obtain⟨c,h1,h2⟩:=h.2.2 i e' j q he' hq;exact⟨c,h1,h2.own0⟩
theorem one_repT{I:Imm}{bl:Bl}{c:Value}{p:PV}(h:RepT I bl w c p)(hp:p.one=true):c.oneCell'=true:=by
 cases h with
 |one h=>
  rcases h with h | h
  ·exact one_rep h hp
  ·cases h<;>rfl
 |func _ _ _ _=>rfl
 |tuple _ _=>cases hp
 |aggr _ _=>cases hp
theorem ones_row{I:Imm}{bl:Bl}{size:Nat}(hs0:0<size){cs:List Value}{es:List PV}(h:RowT I bl w size cs es)(hones:es.all PV.ones=true):∀u∈cs,u.oneCell'=true:=by
 intro u hu;rw[List.all_eq_true] at hones;obtain⟨k,hk⟩:=List.mem_iff_getElem?.1 hu;have hkl:k<es.length * size:=by have:=(List.getElem?_eq_some_iff.1 hk).1;rw[h.1] at this;exact this
 have hi:k / size<es.length:=(Nat.div_lt_iff_lt_mul hs0).2 hkl;have hj:k % size<size:=Nat.mod_lt _ hs0;have he:=List.getElem?_eq_getElem hi
 have hcl:k % size<(es[k / size]).cells.length:=by rw[h.2.1 _ _ he];exact hj
 obtain⟨c,h1,h2⟩:=h.2.2 _ _ _ _ he (List.getElem?_eq_getElem hcl)
 rw[show k / size * size+k % size=k from by rw[Nat.mul_comm];exact Nat.div_add_mod k size,hk] at h1
 cases h1;exact one_repT h2 (List.all_eq_true.1 (hones _ (List.getElem_mem hi)) _ (List.getElem_mem hcl))
theorem AQH{id gen size off len b base n:Nat}{es:List PV}{cs:Array Value}{elem:TypeId}(hs0:0<size)(hheap:w.heap[b]?=some (.cells cs elem (0,0)))(hn:base+es.length * size≤cs.size)
  (hall:∀(i:Nat) (e:PV),es[i]?=some e→e.cells.length=size∧∀(j:Nat) (p:PV),e.cells[j]?=some p→RepT G.I G.bl w (cs.getD (base+i * size+j) undef) p) (hl:off+len≤es.length) :
  ∃ds:List Value,RowT G.I G.bl w size ds ((es.drop off).take len)∧∀(j:Nat) (v:Value),ds[j]?=some v→w.cell? ⟨b,base+off * size+j,none⟩=some v:=by
 have hlen:((es.drop off).take len).length=len:=by rw[List.length_take,List.length_drop];omega
 have hget:∀k,k<len * size→((List.range (len * size)).map fun k=>cs.getD (base+off * size+k) undef)[k]?=some (cs.getD (base+off * size+k) undef):=by
  intro k hk;rw[List.getElem?_map,List.getElem?_range hk];rfl
 have hel:∀(i:Nat) (e:PV),((es.drop off).take len)[i]?=some e→i<len∧es[off+i]?=some e:=by
  intro i e he;rw[List.getElem?_take] at he
  split at he
  ·rename_i hlt;rw[List.getElem?_drop] at he
   exact⟨hlt,he⟩
  ·cases he
 have hmul:(off+len) * size≤es.length * size:=Nat.mul_le_mul_right _ hl;rw[Nat.add_mul] at hmul;refine⟨(List.range (len * size)).map fun k=>cs.getD (base+off * size+k) undef,⟨by simp[hlen],fun i e he=>(hall _ _ (hel i e he).2).1,fun i e j p he hp=>?_⟩,fun k v hk=>?_⟩
 ·obtain⟨h1,h2⟩:=hel i e he;obtain⟨h3,h4⟩:=hall _ _ h2;have hj:j<size:=by rw[←h3];exact(List.getElem?_eq_some_iff.1 hp).1
  have hlt:i * size+j<len * size:=by
   have:(i+1) * size≤len * size:=Nat.mul_le_mul_right _ (by omega)
   rw[Nat.succ_mul] at this;omega
  refine⟨_,hget _ hlt,?_⟩
  have:=h4 j p hp;rw[Nat.add_mul] at this;rw[show base+off * size+(i * size+j)=base+(off * size+i * size)+j from by omega]
  exact this
 ·have hkl:k<len * size:=by have:=(List.getElem?_eq_some_iff.1 hk).1;simpa using this
  rw[hget k hkl] at hk;cases hk;have hlt:base+off * size+k<cs.size:=by omega
  simp[World.cell?,hheap,Array.getD,hlt]
theorem rowA_obj{id gen off len size:Nat}{es:List PV}(h:rowA σ id gen off len size=some es):∃fs,σ[id]?=some [.arrv gen size fs]∧off+len≤fs.length∧es=(fs.drop off).take len:=by
 unfold rowA at h
 split at h
 ·rename_i cs hσ
  split at h
  ·rename_i fs hfs
   split at h
   ·rename_i hl;cases h;rw[AQV hfs] at hσ;exact⟨fs,hσ,hl,rfl⟩
   ·cases h
  ·cases h
 ·cases h
theorem AQB(hi:Inv cx G a w A σ){size:Nat}(hs0:0<size){xT:TypeId}(hxT:∃e',P.underlying xT=some (.slice e')){v:Value}{x:PV}(hr:RepT G.I G.bl w v x){xs:List PV}(hx:appXA size σ x=some xs)
  (hones:xs.all PV.ones=true):∃news,Src P size xT v xs.length news w∧RowT G.I G.bl w size news xs:=by
 cases x with
 |slice own sz es=>
  obtain⟨news,h1,h2⟩:=src_of (P:=P) (G:=G) hs0 (.inl hxT) hr (xs:=xs) hx hones;exact⟨news,h1,.of_row h2⟩
 |nils=>
  obtain⟨news,h1,h2⟩:=src_of (P:=P) (G:=G) hs0 (.inl hxT) hr (xs:=xs) hx hones;exact⟨news,h1,.of_row h2⟩
 |empt=>
  obtain⟨ad,rfl⟩:=hr.AjI;cases hx;obtain⟨e',hk⟩:=hxT;exact⟨[],Src.ofSlice w hk ad 0 0 [] (by simp) (fun j u hu=>by simp at hu) (fun u hu=>by cases hu),RowT.nil _ _ _ _⟩
 |arr id gen off len sz=>
  simp only[appXA] at hx
  split at hx
  ·rename_i hsz';subst hsz';obtain⟨fs,hσ,hl,rfl⟩:=rowA_obj hx;obtain⟨b0,base0,n0,cap,b',o',hb,hcap,hcn,hat,rfl⟩:=hr.AjQ;obtain⟨b,base,n,cs,elem,h1,h2,hω,hI,hheap,h6,h7,h8,h9⟩:=AJ5 hi hσ;rw[hb] at h1;cases h1;obtain⟨ds,hrow,hcell⟩:=AQH (G:=G) (id:=id) (gen:=gen) (n:=n0) (off:=off) (len:=len) hs0 hheap (by omega) h9 hl
   have hlen:((fs.drop off).take len).length=len:=by rw[List.length_take,List.length_drop];omega
   have hrl:=hrow.1;rw[hlen] at hrl;refine⟨ds,?_,hrow⟩
   rw[hlen];obtain⟨e',hk⟩:=hxT;refine Src.ofSlice w hk ⟨b',o',none⟩ len cap ds hrl (fun j u hu=>?_) (ones_row hs0 hrow hones)
   have hjl:=(List.getElem?_eq_some_iff.1 hu).1
   have hl0:0<len:=by
    rcases Nat.eq_zero_or_pos len with h | h
    ·subst h;rw[Nat.zero_mul] at hrl;omega
    ·exact h
   obtain⟨rfl,rfl⟩:=hat (by omega)
   rw[Ax5];exact hcell j u hu
  ·cases hx
 |_=>simp[appXA] at hx
theorem AvG{I:Imm}{bl:Bl}{w':World}{size base:Nat}{cs:Array Value}{news:List Value}{es:List PV}(hrow:RowT I bl w' size news es)(hc:∀(k:Nat) (v:Value),news[k]?=some v→cs.getD (base+k) undef=v):
  ∀(i:Nat) (e:PV),es[i]?=some e→e.cells.length=size∧∀(j:Nat) (p:PV),e.cells[j]?=some p→RepT I bl w' (cs.getD (base+i * size+j) undef) p:=by
 intro i e he;refine⟨hrow.2.1 i e he,fun j p hp=>?_⟩
 obtain⟨c,h1,h2⟩:=hrow.2.2 i e j p he hp;rw[Nat.add_assoc,hc _ _ h1];exact h2
def Bl.gen(bl:Bl)(id gen:Nat)(x:Nat×Nat×Nat):Bl:=⟨bl.l,fun k g=>if k=id∧g=gen then some x else bl.ab k g⟩
theorem Bl.le_gen{bl:Bl}{id gen:Nat}(h:bl.ab id gen=none)(x:Nat×Nat×Nat):bl.le (bl.gen id gen x):=by
 refine⟨List.prefix_rfl,fun k g y hy=>?_⟩
 show(if _ then _ else _)=_
 rw[if_neg]
 ·exact hy
 ·rintro⟨rfl,rfl⟩;rw[h] at hy;cases hy
theorem Bl.gen_at(bl:Bl)(id gen:Nat)(x:Nat×Nat×Nat):(bl.gen id gen x).ab id gen=some x:=if_pos ⟨rfl,rfl⟩
theorem Bl.AwU(bl:Bl){id gen k g:Nat}(x:Nat×Nat×Nat)(h:¬(k=id∧g=gen)):(bl.gen id gen x).ab k g=bl.ab k g:=if_neg h
theorem AQO(cells:Array Value)(news:List Value)(rest:Array Value)(h:cells=news.toArray++rest):∀(k:Nat) (v:Value),news[k]?=some v→cells.getD (0+k) undef=v:=by
 intro k v hk;have hlt:=(List.getElem?_eq_some_iff.1 hk).1
 rw[Nat.zero_add,h,Array.getD_eq_getD_getElem?,Array.getElem?_append_left (by simpa using hlt),List.getElem?_toArray,hk];rfl
theorem new_arr(hi:Inv cx G a w A σ){d:Nat}(hdv:d<cx.nt∧(cx.kd d).val=true){o:Oper}(hod:o.dst=some d){w1:World}(hx0:Ext (fun _=>False) G G w w1)(hb0:Base cx G w1)
  {cells:Array Value} {e:TypeId} {size len cap:Nat} {es:List PV} (hs0:0<size) (hcap:len≤cap) (hsz:cells.size=cap * size) (hlen:es.length=len)
  (hes:∀(i:Nat) (e:PV),es[i]?=some e→e.cells.length=size∧∀(j:Nat) (p:PV),e.cells[j]?=some p→RepT G.I G.bl w (cells.getD (0+i * size+j) undef) p)
  (hr:(execOp a.eval o).run P w=.ok (.value (.slice (some ⟨w1.heap.size,0,none⟩) len cap)) (w1.alloc (.cells cells e))) :
  Gives P cx o a w (A.set d (some (.arr σ.length 0 0 len size))) (σ++[[.arrv 0 size es]]):=by
 let G1:=G.newB w1.heap.size (fun _=>False) (some (.obj σ.length none))
 let bl':Bl:=⟨G.bl.l++[w1.heap.size],(G.bl.gen σ.length 0 (w1.heap.size,0,cells.size)).ab⟩
 let G':Gh:={ G1 with bl:=bl' }
 have hnone:∀g,G.bl.ab σ.length g=none:=by
  intro g;cases h:G.bl.ab σ.length g with
  |none=>rfl
  |some y=>have:=hi.abl _ _ _ h;omega
 have hble:G.bl.le bl':=⟨List.prefix_append _ _,(Bl.le_gen (hnone 0) _).2⟩;have hext1:=hx0.trans (AxD (fun _=>False) hb0 (.cells cells e) (fun _=>False) (some (.obj σ.length none)))
 have hext:Ext (fun _=>False) G G' w (w1.alloc (.cells cells e)):=⟨hext1.I,hext1.same,hble,fun id hid _ g=>Bl.AwU _ _ (by rw[hi.len] at hid;omega),hext1.fix⟩
 have hb1:=Ax0 hb0 (.cells cells e) (fun _=>False) (some (.obj σ.length none))
 have hbase:Base cx G' (w1.alloc (.cells cells e)):=⟨hb1.keep,hb1.same,hb1.sub,hb1.new,hb1.lt,hb1.own,hb1.Klt,hb1.grow,hi.base.bl.trans hble,hb1.os,hb1.tape,hb1.output⟩
 have hbl:G'.bl.l[σ.length]?=some w1.heap.size:=by
  show(G.bl.l++[w1.heap.size])[σ.length]?=_;rw[←hi.len];simp
 have habn:G'.bl.ab σ.length 0=some (w1.heap.size,0,cells.size):=Bl.gen_at ..
 have hval:RefOk G'.bl (.slice (some ⟨w1.heap.size,0,none⟩) len cap) (.arr σ.length 0 0 len size):=
  .arr habn hcap (by rw[Nat.zero_add,Nat.zero_add,hsz];exact Nat.le_refl _) (fun _=>⟨rfl,by omega⟩)
 refine .inl ⟨_,_,hr,G',?_⟩
 rw[hod];refine hi.step (fun _=>False) (some d) _ hext hbase (by simp) ?_ ?_ ?_ ?_
 ·intro t q hq;rw[AqL] at hq
  split at hq
  ·rename_i h;cases hq;refine .inr ?_
   rw[h.1,Aq9 hdv.2 rfl,AxH _ _ _ (by rw[hi.size];exact hdv.1)]
   exact⟨.one (.inr hval),trivial⟩
  ·rename_i h;refine .inl ⟨hq,fun e=>h ⟨(Option.some.inj e).symm,by have:=hi.room;have:=hdv.1;omega⟩,fun _ h=>h,fun d' off e' hbx hdd=>?_,fun m hm=>⟨fun e'=>?_,fun h=>h⟩⟩
   ·cases hdd;have:=hdv.2;rw[hbx] at this;simp[SK.val] at this
   ·cases e';obtain⟨keys,hkm⟩:=cx.ents t d hm;have:=hdv.2;rw[hkm] at this;simp[SK.val] at this
 ·intro id cs' hc';by_cases hid:id<σ.length
  ·rw[List.getElem?_append_left hid] at hc'
   exact .inl ⟨hc',fun _ h=>h⟩
  ·have:id=σ.length:=by
    have:=(List.getElem?_eq_some_iff.1 hc').1
    simp at this;omega
   subst this;simp at hc';subst hc'
   refine .inr ⟨w1.heap.size,hbl,.inr (.inr (.inr (.inl ⟨0,size,_,rfl,w1.heap.size,0,cells.size,cells,e,habn,fun g hg=>?_,if_pos rfl,?_,heap_alloc_new' _ _,rfl,hs0,?_,
    fun i e he=>⟨(hes i e he).1,fun j p hp=>((hes i e he).2 j p hp).mono hext.I hext.same hext.bl⟩⟩)))⟩
   ·exact(Bl.AwU _ _ (by omega)).trans (hnone g)
   ·rintro x (h | ⟨_,h⟩)
    ·have:=hb0.lt _ _ h;omega
    ·exact h
   ·rw[hlen,Nat.zero_add,hsz];exact Nat.mul_le_mul_right _ hcap
 ·show(G.bl.l++[w1.heap.size]).length=_;simp[hi.len]
 ·intro id g y hy;show id<(σ++_).length;simp only[List.length_append,List.length_cons,List.length_nil];by_cases h:id=σ.length∧g=0
  ·omega
  ·have:=hi.abl id g y ((Bl.AwU _ _ h).symm.trans hy);omega
theorem sim_appA(hi:Inv cx G a w A σ)(hkd:∀t,cx.kd t=fi.kind t)(hnt:cx.nt=fi.nt){o:Oper}{c:Call}(ho:o.op=.call c)(hb:c.callee=.builtin .append)
  {sT xT e:TypeId} {d:Nat} {y1 y:Operand} (hargs:c.args=#[y1,y]) (htys:c.argTypes=#[sT,xT]) (hod:o.dst=some d)
  (hsT:P.underlying sT=some (.slice e)) (hxT:∃e',P.underlying xT=some (.slice e')) {it:TypeInfo} (hit:P.info? e=some it)
  (hs0:0<it.size) (hby:it.bytes≤4096) (hz:(it.zero.map (·.cells.size))=some it.size)
  {as:List AArg} (hc:Aq2 fi [y1,y]=some as) (hd:AqK fi d=true)
  (hrun:runA pur call { dst:=some d,k:=.w (.appA it.size),args:=as } A σ=some (A',σ')):Gives P cx o a w A' σ':=by
 obtain⟨vs,rs,he,hsem,hA,_⟩:=runK hrun;obtain⟨z1,zs,rfl,hy1,hz1⟩:=Aq3 hc;obtain⟨z2,zs,rfl,hy2,hz2⟩:=Aq3 hz1;cases hz2;obtain⟨s,qs,rfl,hs,hq⟩:=Aq1 he;obtain⟨x,qs,rfl,hx,hq⟩:=Aq1 hq;cases hq;have hdv:=AxN hkd hnt hd;obtain⟨z,hz',hzs⟩:=Option.map_eq_some_iff.1 hz;simp only[sem,semW] at hsem
 split at hsem
 case h_2=>cases hsem
 rename_i xs hxs;have hxfree:x.free=true:=by cases x<;>first | rfl | simp[appXA] at hxs
 have hxrep:=Aq5 hi hkd hy2 hx hxfree;have hsfree:s.free=true:=by cases s<;>first | rfl | simp[appA] at hsem
 have hsrep:=Aq5 hi hkd hy1 hs hsfree;obtain⟨consts,hrun'⟩:=Ax3 (P:=P) (w:=w) (a:=a) ho hb;rw[hargs,htys] at hrun';have hev:(#[y1,y].map a.eval)=#[a.eval y1,a.eval y]:=by simp
 rw[hev] at hrun'
 have hfin:∀{v:Value} {w':World},(Builtin.append_ #[sT,xT] o.type #[a.eval y1,a.eval y]).run P w=.ok v w'→(execOp a.eval o).run P w=.ok (.value v) w':=by
  intro v w' h;rw[hrun'];simp only[builtin,Sem.run_bind,h,Result.andThen_ok,Sem.run_pure]
 have hput:∀p,rs=[some p]→A'=A.set d (some p):=by
  rintro p rfl
  rw[hA rfl];rfl
 have stay:∀{v:Value},rs=[some s]→σ'=σ→a.eval y1=v→(Builtin.append_ #[sT,xT] o.type #[v,a.eval y]).run P w=.ok v w→(∀sz es,s≠.slice true sz es)→Gives P cx o a w A' σ':=by
  intro v h1 h2 h3 h4 h5;subst h2;rw[hput _ h1];refine .inl ⟨v,w,hfin (by rw[h3];exact h4),G,?_⟩
  rw[hod];exact hi.put1 (Ext.refl _ _ _) hi.base rfl (some d) (fun t e=>by cases e;exact hdv) hsfree (by rw[←h3];exact hsrep) (fun _ _=>AwL h5)
 have frame:∀(G':Gh) (w':World) (v:Value) (p:PV),p.free=true→RepT G'.I G'.bl w' v p→(∀tag,OwnOk G' w' tag v p)→∀(t:Nat) (q:PV),Frm.get (A.set d (some p)) t=some q→
   (¬False∧some d≠some t∧A.get t=some q)∨AqW cx G' (a.put (some d) v) w' t q:=by
  intro G' w' v p hf hr how t q hq;rw[AqL] at hq
  split at hq
  ·rename_i h;cases hq;refine .inr ?_
   rw[h.1,Aq9 hdv.2 hf,AxH _ _ _ (by rw[hi.size];exact hdv.1)]
   exact⟨hr,how _⟩
  ·rename_i h;exact .inl ⟨fun h=>h,fun e=>h ⟨(Option.some.inj e).symm,by have:=hi.room;have:=hdv.1;omega⟩,hq⟩
 cases s with
 |nils=>
  have ev:=hsrep.AxB;simp only[appA] at hsem
  split at hsem
  ·rename_i hemp;have hxe:xs=[]:=List.isEmpty_iff.1 hemp;subst hxe;cases hsem;obtain⟨news,hsrc,_⟩:=AQB (P:=P) hi hs0 hxT hxrep hxs (by rfl)
   have hn0:news=[]:=List.length_eq_zero_iff.1 (by rw[hsrc.newsLen];simp)
   subst hn0;refine stay rfl rfl ev ?_ (by simp)
   have hc0:=hsrc.cells;have hl0:=hsrc.len w;simp only[List.length_nil] at hc0 hl0;obtain⟨e',hk⟩:=hxT;simp[Builtin.append_,run_underlying hsT,run_underlying hk,sizeOf,typeInfo,hit,hl0,hc0]
  ·rename_i hemp
   split at hsem
   case isFalse=>cases hsem
   rename_i hcond;obtain⟨hmax,hones,hokc⟩:=hcond;cases hsem;rw[hput _ rfl];obtain⟨news,hsrc,hrow⟩:=AQB (P:=P) hi hs0 hxT hxrep hxs hones
   have hxlen:0<xs.length:=by
    cases xs with
    |nil=>simp at hemp
    |cons _ _=>simp
   have hr:=run_append_grow_src w sT xT o.type e it z hsT hit hz' none 0 0 [] (run_firstCells_none w.drew it.size 0 0 0) (a.eval y) xs.length news hsrc (by omega) (by unfold AqC at hmax;omega) (AjY (by omega) (by omega) hby)
   rw[←ev] at hr;simp only[Nat.zero_add,List.nil_append] at hr
   let cap:=grownCap w xs.length 0 e
   let rest:Array Value:=Builtin.zeroCells z.cells (cap - xs.length)
   have hcap:xs.length≤cap:=grownCap_ge ..
   have hsz:(news.toArray++rest).size=cap * it.size:=by
    simp only[rest,Array.size_append,List.size_toArray,hrow.1,Builtin.zeroCells,Array.size_map,Array.size_range,hzs];rw[←Nat.add_mul];congr 1;omega
   exact new_arr hi hdv hod (AkF (G:=G) (w:=w) (fun _=>False)) (AxW hi.base) hs0 hcap hsz (by simp) (AvG hrow.Aq0 (AQO _ news rest rfl)) (hfin hr)
 |empt=>
  obtain⟨ad,ev⟩:=hsrep.AjI;simp only[appA] at hsem
  split at hsem
  ·rename_i hemp;have hxe:xs=[]:=List.isEmpty_iff.1 hemp;subst hxe;cases hsem;obtain⟨news,hsrc,_⟩:=AQB (P:=P) hi hs0 hxT hxrep hxs (by rfl)
   have hn0:news=[]:=List.length_eq_zero_iff.1 (by rw[hsrc.newsLen];simp)
   subst hn0;refine stay rfl rfl ev ?_ (by simp)
   have hc0:=hsrc.cells;have hl0:=hsrc.len w;simp only[List.length_nil] at hc0 hl0;obtain⟨e',hk⟩:=hxT;simp[Builtin.append_,run_underlying hsT,run_underlying hk,sizeOf,typeInfo,hit,hl0,hc0,storeCells]
  ·rename_i hemp
   split at hsem
   case isFalse=>cases hsem
   rename_i hcond;obtain⟨hmax,hones,hokc⟩:=hcond;cases hsem;rw[hput _ rfl];obtain⟨news,hsrc,hrow⟩:=AQB (P:=P) hi hs0 hxT hxrep hxs hones
   have hxlen:0<xs.length:=by
    cases xs with
    |nil=>simp at hemp
    |cons _ _=>simp
   have hr:=run_append_grow_src w sT xT o.type e it z hsT hit hz' (some ad) 0 0 [] (run_firstCells_some w.drew it.size 0 ad 0 0 [] (by simp) (fun j u h=>by simp at h)) (a.eval y) xs.length news hsrc (by omega) (by unfold AqC at hmax;omega) (AjY (by omega) (by omega) hby)
   rw[←ev] at hr;simp only[Nat.zero_add,List.nil_append] at hr
   let cap:=grownCap w xs.length 0 e
   let rest:Array Value:=Builtin.zeroCells z.cells (cap - xs.length)
   have hcap:xs.length≤cap:=grownCap_ge ..
   have hsz:(news.toArray++rest).size=cap * it.size:=by
    simp only[rest,Array.size_append,List.size_toArray,hrow.1,Builtin.zeroCells,Array.size_map,Array.size_range,hzs];rw[←Nat.add_mul];congr 1;omega
   exact new_arr hi hdv hod (AkF (G:=G) (w:=w) (fun _=>False)) (AxW hi.base) hs0 hcap hsz (by simp) (AvG hrow.Aq0 (AQO _ news rest rfl)) (hfin hr)
 |arr id gen off len sz=>
  simp only[appA] at hsem
  split at hsem
  case isFalse=>cases hsem
  rename_i hsz';subst hsz'
  split at hsem
  case h_2=>cases hsem
  rename_i es hes;obtain⟨fs,hσ,hl,rfl⟩:=rowA_obj hes;obtain⟨b0,base0,n0,cap,b',o',hbb,hcap,hcn,hat,ev⟩:=hsrep.AjQ;obtain⟨b,base,n,cs,elem,h1,h2,hω,hI,hheap,h6,h7,h8,h9⟩:=AJ5 hi hσ;rw[hbb] at h1;cases h1;have hidlt:=(List.getElem?_eq_some_iff.1 hσ).1
  have hlen:((fs.drop off).take len).length=len:=by rw[List.length_take,List.length_drop];omega
  split at hsem
  ·rename_i hemp;have hxe:xs=[]:=List.isEmpty_iff.1 hemp;subst hxe;cases hsem;obtain⟨news,hsrc,_⟩:=AQB (P:=P) hi hs0 hxT hxrep hxs (by rfl)
   have hn0:news=[]:=List.length_eq_zero_iff.1 (by rw[hsrc.newsLen];simp)
   subst hn0;exact stay rfl rfl ev (run_append_room_src w sT xT o.type e it hsT hit b' o' len cap _ _ [] hsrc (by simpa using hcap) (by simp) (by simp)) (by simp)
  ·rename_i hemp
   split at hsem
   case isFalse=>cases hsem
   rename_i hcond;obtain⟨hmax,hones,hokc⟩:=hcond;cases hsem;rw[hput _ rfl];obtain⟨news,hsrc,hrow⟩:=AQB (P:=P) hi hs0 hxT hxrep hxs hones
   have hxlen:0<xs.length:=by
    cases xs with
    |nil=>simp at hemp
    |cons _ _=>simp
   obtain⟨olds,holdrow,holdcell⟩:=AQH (G:=G) (id:=id) (gen:=gen) (n:=n0) (off:=off) (len:=len) hs0 hheap (by omega) h9 hl
   have holdlen:olds.length=len * it.size:=by rw[holdrow.1,hlen]
   have hnewlen:news.length=xs.length * it.size:=hrow.1;have hnone:G.bl.ab id (gen+1)=none:=h2 _ (by omega)
   obtain⟨bo,hbo,_⟩:=hi.obj id _ hσ;by_cases hfit:len+xs.length≤cap
   ·
    obtain⟨rfl,rfl⟩:=hat (by omega)
    have hmul:(off+(len+xs.length)) * it.size≤(off+cap) * it.size:=Nat.mul_le_mul_right _ (by omega)
    have hmul2:(off+(len+xs.length)) * it.size=off * it.size+len * it.size+xs.length * it.size:=by rw[Nat.add_mul,Nat.add_mul];omega
    have hmul3:(off+cap) * it.size=off * it.size+cap * it.size:=Nat.add_mul ..
    let k:=base0+off * it.size+len * it.size
    have hin:∀j,j<news.length→(w.cell? ⟨b',k+j,none⟩).isSome=true:=by
     intro j hj;simp only[World.cell?,hheap];have:k+j<cs.size:=by show base0+off * it.size+len * it.size+j<cs.size;omega
     simp[this]
    have hr:=run_append_room_src w sT xT o.type e it hsT hit b' (base0+off * it.size) len cap (a.eval y) xs.length news hsrc hfit hin (fun j hj=>by simp[World.frozen?,hheap])
    rw[←ev] at hr
    let w':=w.setCells b' k news
    let bl':Bl:=G.bl.gen id (gen+1) (b',base0+off * it.size,n0)
    let G':Gh:=⟨G.I,G.ω,bl'⟩
    have hne:∀b2 x,G.I b2 x→b2≠b':=fun b2 x h e=>hI x (e▸h)
    have hsame:Same G.I w w':=⟨fun b2 o2 h=>cell_of_heap (AqT b' _ _ _ _ (hne _ _ h)),fun b2 h=>AqT b' _ _ _ _ (hne _ _ h)⟩
    have hext:Ext (fun tg=>tg=.obj id none) G G' w w':=by
     refine⟨fun _ _ h=>h,hsame,Bl.le_gen hnone _,fun id' hid' hX g=>Bl.AwU _ _ (fun hh=>hX none (by rw[hh.1])),fun b2 tg h hX=>?_⟩
     have hb2:b2≠b':=by
      intro e2;subst e2;rw[hω] at h;cases h;exact hX rfl
     exact⟨h,AqT b' _ _ _ _ hb2,fun x hx=>hx⟩
    have hnK:=(hi.base.own b' _ hω).2
    have hbase:Base cx G' w':=by
     have hb0:=hi.base;refine⟨fun b2 hK=>?_,hb0.same.trans hsame hb0.sub,hb0.sub,hb0.new,fun b2 x h=>by rw[size_setCells];exact hb0.lt b2 x h,fun b2 tg h=>by rw[size_setCells];exact hb0.own b2 tg h,hb0.Klt,by rw[size_setCells];exact hb0.grow,hb0.bl.trans (Bl.le_gen hnone _),?_,by rw[Ak5];exact hb0.tape,?_⟩
     ·rw[AqT b' _ _ _ _ (fun e2=>hnK (e2▸hK))];exact hb0.keep b2 hK
     ·rw[World.os_setCells];exact hb0.os
     ·rw[World.output_setCells];exact hb0.output
    obtain⟨cur',hcur1,hcur2⟩:=Az6 b' elem (0,0) news k w cs hheap;have habn:G'.bl.ab id (gen+1)=some (b',base0+off * it.size,n0):=Bl.gen_at ..;have hrow2:=((holdrow.append hrow.Aq0)).mono hext.I hext.same hext.bl
    have hcellw:∀(j:Nat) (v:Value),(olds++news)[j]?=some v→cur'.getD (base0+off * it.size+j) undef=v:=by
     intro j v hj
     have key:w'.cell? ⟨b',base0+off * it.size+j,none⟩=some v:=by
      by_cases hjo:j<olds.length
      ·rw[List.getElem?_append_left hjo] at hj
       have h0:=holdcell j v hj;rw[←h0];exact World.cell?_setCells_out b' news _ w _ (fun _ _=>.inl (by dsimp only;show _<base0+off * it.size+len * it.size;omega))
      ·rw[List.getElem?_append_right (by omega),holdlen] at hj
       have hkn:j - len * it.size<news.length:=(List.getElem?_eq_some_iff.1 hj).1
       have h0:=World.cell?_setCells_in b' news k w hin _ hkn
       rw[show k+(j - len * it.size)=base0+off * it.size+j from by show base0+off * it.size+len * it.size+(j - len * it.size)=_;omega] at h0
       rw[h0,←List.getElem?_eq_getElem hkn];exact hj
     simp only[World.cell?] at key;rw[hcur2] at key;rw[Array.getD_eq_getD_getElem?];simp at key;rw[key];rfl
    have hval:RefOk G'.bl (.slice (some ⟨b',base0+off * it.size,none⟩) (len+xs.length) cap) (.arr id (gen+1) 0 (len+xs.length) it.size):=
     .arr habn hfit (by rw[Nat.zero_add];omega) (fun _=>⟨rfl,by omega⟩)
    refine .inl ⟨_,w',hfin hr,G',?_⟩
    rw[hod]
    refine hi.AXK (X:=fun tg=>tg=.obj id none) (T:=fun _=>False) (some d) _ (fun u e=>by cases e;exact hdv.2) hidlt
     ⟨bo,hbo,.inr (.inr (.inr (.inl ⟨gen+1,it.size,_,rfl,b',base0+off * it.size,n0,cur',elem,habn,fun g hg=>?_,hω,hI,hcur2,by omega,hs0,?_,AvG hrow2 hcellw⟩)))⟩ hext hbase rfl (fun k' g x hx=>?_) (fun tg h=>.inl ⟨none,h⟩) (fun _ h=>h.elim) (by simp)
     (frame G' w' _ _ rfl (.one (.inr hval)) (fun _=>trivial))
    ·exact(Bl.AwU _ _ (by omega)).trans (h2 g (by omega))
    ·rw[List.length_append,List.length_map,hlen,Nat.add_mul];omega
    ·by_cases hh:k'=id∧g=gen+1
     ·rw[hh.1];exact hidlt
     ·exact hi.abl k' g x ((Bl.AwU _ _ hh).symm.trans hx)
   ·
    have hg:cap<len+xs.length:=by omega
    have hfc:(Builtin.firstCells it.size len (.slice (some ⟨b',o',none⟩) len cap)).run P w.drew=.ok olds.toArray w.drew:=by
     refine run_firstCells_some w.drew it.size len ⟨b',o',none⟩ len cap olds holdlen (fun j v hj=>?_)
     have hjl:=(List.getElem?_eq_some_iff.1 hj).1
     have hl0:0<len:=by
      rcases Nat.eq_zero_or_pos len with h | h
      ·subst h;rw[Nat.zero_mul] at holdlen;omega
      ·exact h
     obtain⟨rfl,rfl⟩:=hat (by omega)
     rw[Ax5];exact holdcell j v hj
    have hr:=run_append_grow_src w sT xT o.type e it z hsT hit hz' (some ⟨b',o',none⟩) len cap olds hfc (a.eval y) xs.length news hsrc hg (by unfold AqC at hmax;omega) (AjY hg hmax hby)
    rw[←ev] at hr
    let cap':=grownCap w (len+xs.length) cap e
    let rest:Array Value:=Builtin.zeroCells z.cells (cap' - (len+xs.length))
    let cells:Array Value:=(olds++news).toArray++rest
    have hcap':len+xs.length≤cap':=grownCap_ge ..
    have hsz:cells.size=cap' * it.size:=by
     simp only[cells,rest,Array.size_append,List.size_toArray,List.length_append,holdlen,hnewlen,Builtin.zeroCells,Array.size_map,Array.size_range,hzs];rw[←Nat.add_mul,←Nat.add_mul];congr 1;omega
    let G1:=G.newB w.heap.size (fun _=>False) (some (.obj id none))
    let bl':Bl:=G.bl.gen id (gen+1) (w.heap.size,0,cells.size)
    let G':Gh:={ G1 with bl:=bl' }
    have hext1:=(AkF (G:=G) (w:=w) (fun tg=>tg=.obj id none)).trans (AxD (fun tg=>tg=.obj id none) (AxW hi.base) (.cells cells e) (fun _=>False) (some (.obj id none)))
    have hext:Ext (fun tg=>tg=.obj id none) G G' w (w.drew.alloc (.cells cells e)):=⟨hext1.I,hext1.same,Bl.le_gen hnone _,fun id' hid' hX g=>Bl.AwU _ _ (fun hh=>hX none (by rw[hh.1])),hext1.fix⟩
    have hb1:=Ax0 (AxW hi.base) (.cells cells e) (fun _=>False) (some (.obj id none))
    have hbase:Base cx G' (w.drew.alloc (.cells cells e)):=⟨hb1.keep,hb1.same,hb1.sub,hb1.new,hb1.lt,hb1.own,hb1.Klt,hb1.grow,hi.base.bl.trans (Bl.le_gen hnone _),hb1.os,hb1.tape,hb1.output⟩;have habn:G'.bl.ab id (gen+1)=some (w.heap.size,0,cells.size):=Bl.gen_at ..;have hrow2:=((holdrow.append hrow.Aq0)).mono hext.I hext.same hext.bl
    have hval:RefOk G'.bl (.slice (some ⟨w.heap.size,0,none⟩) (len+xs.length) cap') (.arr id (gen+1) 0 (len+xs.length) it.size):=
     .arr habn hcap' (by rw[Nat.zero_add,Nat.zero_add,hsz];exact Nat.le_refl _) (fun _=>⟨rfl,by omega⟩)
    refine .inl ⟨_,_,hfin hr,G',?_⟩
    rw[hod];show Inv cx G' (a.put (some d) (.slice (some ⟨w.heap.size,0,none⟩) (len+xs.length) cap')) (w.drew.alloc (.cells cells e)) _ _
    refine hi.AXK (X:=fun tg=>tg=.obj id none) (T:=fun _=>False) (some d) _ (fun u e=>by cases e;exact hdv.2) hidlt
     ⟨bo,hbo,.inr (.inr (.inr (.inl ⟨gen+1,it.size,_,rfl,w.heap.size,0,cells.size,cells,e,habn,fun g hg=>?_,if_pos rfl,?_,heap_alloc_new' _ _,rfl,hs0,?_,AvG hrow2 (AQO cells (olds++news) rest rfl)⟩)))⟩ hext hbase rfl (fun k' g x hx=>?_) (fun tg h=>.inl ⟨none,h⟩) (fun _ h=>h.elim) (by simp)
     (frame G' (w.drew.alloc (.cells cells e)) (.slice (some ⟨w.heap.size,0,none⟩) (len+xs.length) cap') _ rfl (.one (.inr hval)) (fun _=>trivial))
    ·exact(Bl.AwU _ _ (by omega)).trans (h2 g (by omega))
    ·rintro x (h | ⟨_,h⟩)
     ·have:=hi.base.lt _ _ h;omega
     ·exact h
    ·rw[List.length_append,List.length_map,hlen,Nat.zero_add,hsz];exact Nat.mul_le_mul_right _ hcap'
    ·by_cases hh:k'=id∧g=gen+1
     ·rw[hh.1];exact hidlt
     ·exact hi.abl k' g x ((Bl.AwU _ _ hh).symm.trans hx)
 |_=>simp[appA] at hsem
theorem frz_core2(hi:Inv cx G a w A σ){id gen off len size:Nat}{es:List PV}(hes:rowA σ id gen off len size=some es)(hfl:es.all (fun e=>e.flat&&e.cells.all PV.flat)=true):
  ∃G',Inv cx G' a w A (σ.set id [.dead])∧G'.bl=G.bl∧(∀b x,G.I b x→G'.I b x)∧∀v,RepT G.I G.bl w v (.arr id gen off len size)→Rep G'.I w v (.slice false size es):=by
 obtain⟨fs,hσ,hl,rfl⟩:=rowA_obj hes;obtain⟨b,base,n,cs,elem,h1,h2,hω,hI,hheap,h6,h7,h8,h9⟩:=AJ5 hi hσ;obtain⟨bo,hbo,_⟩:=hi.obj id _ hσ
 let J:Option Nat→Prop:=fun x=>∃o,x=some o
 have hext:=ext_shut (G:=G) (w:=w) (X:=fun tg=>tg=.obj id none) hω rfl J
 refine⟨G.shut b J,hi.AXK (X:=fun tg=>tg=.obj id none) (T:=fun _=>False) none undef (fun u e=>by cases e) (List.getElem?_eq_some_iff.1 hσ).1 ⟨bo,hbo,.inr (.inr (.inl rfl))⟩ hext (AQ3 hi.base hω J) rfl hi.abl
  (fun tg h=>.inl ⟨none,h⟩) (fun _ h=>h.elim) rfl (fun t q hq=>.inl ⟨fun h=>h,by simp,hq⟩),rfl,fun _ _ h=>.inl h,fun v hv=>?_⟩
 obtain⟨b0,base0,n0,cap,b',o',hbb,hcap,hcn,hat,ev⟩:=hv.AjQ;rw[hbb] at h1;cases h1;have hlen:((fs.drop off).take len).length=len:=by rw[List.length_take,List.length_drop];omega
 obtain⟨ds,hrow,hcell⟩:=AQH (G:=G) (id:=id) (gen:=gen) (n:=n) (off:=off) (len:=len) h7 hheap (by omega) h9 hl
 have hflat:∀(i:Nat) (e:PV) (j:Nat) (p:PV),((fs.drop off).take len)[i]?=some e→e.cells[j]?=some p→p.flat=true:=by
  intro i e j p he hp;have:=List.all_eq_true.1 hfl e (List.mem_of_getElem? he);rw[Bool.and_eq_true] at this;exact List.all_eq_true.1 this.2 p (List.mem_of_getElem? hp)
 have hrow2:RowOk (G.shut b J).I w size ds ((fs.drop off).take len):=by
  refine⟨hrow.1,hrow.2.1,fun i e j p he hp=>?_⟩
  obtain⟨c,c1,c2⟩:=hrow.2.2 i e j p he hp;exact⟨c,c1,(c2.flat (hflat i e j p he hp)).mono hext.I hext.same⟩
 rw[ev];by_cases hl0:len=0
 ·have hemp:(fs.drop off).take len=[]:=by rw[hl0];simp
  rw[hemp] at hlen ⊢;exact .slice (fun _ _=>undef) hlen.symm hcap (fun h=>absurd rfl h) (fun i e h=>by simp at h) (fun i e j p h=>by simp at h) (fun i e j p h=>by simp at h) (fun i e j p h=>by simp at h)
 ·obtain⟨rfl,rfl⟩:=hat (by omega)
  exact AQJ hlen.symm hcap hrow2 (fun k _=>.inr ⟨rfl,_,rfl⟩) (fun k v hk=>hcell k v hk)
theorem frz_core(hi:Inv cx G a w A σ){id gen off len size:Nat}{es:List PV}(hes:rowA σ id gen off len size=some es)(hfl:es.all (fun e=>e.flat&&e.cells.all PV.flat)=true):
  ∃G',Inv cx G' a w A (σ.set id [.dead])∧∀v,RepT G.I G.bl w v (.arr id gen off len size)→Rep G'.I w v (.slice false size es):=by
 obtain⟨G',h1,_,_,h4⟩:=frz_core2 hi hes hfl;exact⟨G',h1,h4⟩
theorem AZR:∀(ps:List PV) {vs:List PV} {σ σ':Sto},frzL ps σ=some (vs,σ')→∀{G:Gh},Inv cx G a w A σ→
  ∃G',Inv cx G' a w A σ'∧G'.bl=G.bl∧(∀b x,G.I b x→G'.I b x)∧vs.length=ps.length∧∀(i:Nat) (p q:PV),ps[i]?=some p→vs[i]?=some q→∀c,Rep1 G.I G.bl w c p→Rep G'.I w c q
 |[],vs,σ,σ',h,G,hi=>by
  cases h;exact⟨G,hi,rfl,fun _ _ h=>h,rfl,fun i p q hp=>by simp at hp⟩
 |c::cs,vs,σ,σ',h,G,hi=>by
  have flat:c.flat=true→(frzL cs σ).map (fun(vs,σ')=>(c.own0::vs,σ'))=some (vs,σ')→∃G',Inv cx G' a w A σ'∧G'.bl=G.bl∧(∀b x,G.I b x→G'.I b x)∧vs.length=(c::cs).length∧∀(i:Nat) (p q:PV),(c::cs)[i]?=some p→vs[i]?=some q→∀u,Rep1 G.I G.bl w u p→Rep G'.I w u q:=by
   intro hf h;obtain⟨⟨us,σ1⟩,h1,e⟩:=Option.map_eq_some_iff.1 h;cases e;obtain⟨G',i1,i2,i3,i4,i5⟩:=AZR cs h1 hi;refine⟨G',i1,i2,i3,by simp[i4],fun i p q hp hq u hu=>?_⟩
   cases i with
   |zero=>
    simp at hp hq;subst hp hq;exact(((RepT.one hu).flat hf).mono i3 (Same.refl _ _)).own0
   |succ i=>exact i5 i p q (by simpa using hp) (by simpa using hq) u hu
  unfold frzL at h
  split at h
  ·rename_i id gen off len size
   split at h
   case h_2=>cases h
   rename_i es hes
   split at h
   case isFalse=>cases h
   rename_i hfl;obtain⟨⟨us,σ1⟩,h1,e⟩:=Option.map_eq_some_iff.1 h;cases e;obtain⟨G1,j1,j2,j3,j4⟩:=frz_core2 hi hes hfl;obtain⟨G',i1,i2,i3,i4,i5⟩:=AZR cs h1 j1;refine⟨G',i1,i2.trans j2,fun b x h=>i3 _ _ (j3 _ _ h),by simp[i4],fun i p q hp hq u hu=>?_⟩
   cases i with
   |zero=>
    simp at hp hq;subst hp hq;exact(j4 u (.one hu)).mono i3 (Same.refl _ _)
   |succ i=>exact i5 i p q (by simpa using hp) (by simpa using hq) u (hu.mono j3 (Same.refl _ _) (by rw[j2];exact Bl.le_refl _))
  ·split at h
   ·rename_i hf;exact flat hf h
   ·cases h
theorem Inv.reset(hi:Inv cx G a w A σ){d:Nat}{p:PV}(hs:AqW cx G a w d p):Inv cx G a w (A.set d (some p)) σ:=by
 refine⟨hi.defers,hi.size,by rw[List.length_set];exact hi.room,hi.base,fun t v hv=>?_,hi.obj,hi.len,hi.abl⟩
 rw[AqL] at hv
 split at hv
 ·rename_i h;cases hv;rw[h.1];exact hs
 ·exact hi.slot t v hv
theorem sim_frz(hi:Inv cx G a w A σ)(hkd:∀t,cx.kd t=fi.kind t)(hnt:cx.nt=fi.nt){o:Oper}{x:Operand}(ho:o.op=.move x)
  {as:List AArg} (hc:Aq2 fi [x]=some as) (hd:Aq7 fi o.dst=true) (hrun:runA pur call { dst:=o.dst,k:=.w .frz,args:=as } A σ=some (A',σ')):Gives P cx o a w A' σ':=by
 obtain⟨vs,rs,he,hs,hA1,hA2⟩:=runK hrun;obtain⟨y,zs,rfl,hy,hz⟩:=Aq3 hc;cases hz;obtain⟨p,qs,rfl,hp,hq⟩:=Aq1 he;cases hq
 have hA:∀q,rs=[some q]→A'=setO A o.dst q:=by
  rintro q rfl
  cases hdd:o.dst with
  |none=>
   rw[hdd] at hA2;exact(hA2 (by simp)).1
  |some d=>
   rw[hdd] at hA1;rw[hA1 rfl];rfl
 have hrun0:(execOp a.eval o).run P w=.ok (.value (a.eval x)) w:=by simp[execOp,ho]
 have hdst:=AqV hkd hnt hd;cases p with
 |nils=>
  simp only[sem,semW] at hs;cases hs;rw[hA _ rfl];exact .inl ⟨_,w,hrun0,G,hi.put1 (Ext.refl _ _ _) hi.base rfl o.dst hdst rfl (Aq5 hi hkd hy hp rfl) (fun _ _=>trivial)⟩
 |empt=>
  simp only[sem,semW] at hs;cases hs;rw[hA _ rfl];exact .inl ⟨_,w,hrun0,G,hi.put1 (Ext.refl _ _ _) hi.base rfl o.dst hdst rfl (Aq5 hi hkd hy hp rfl) (fun _ _=>trivial)⟩
 |arr id gen off len size=>
  simp only[sem,semW] at hs
  split at hs
  ·rename_i es hes
   split at hs
   ·rename_i hfl;cases hs;rw[hA _ rfl];obtain⟨G',hi',hrep⟩:=frz_core hi hes hfl;exact .inl ⟨_,w,hrun0,G',hi'.put1 (Ext.refl _ _ _) hi'.base rfl o.dst hdst rfl (.one (.inl (hrep _ (Aq5 hi hkd hy hp rfl)))) (fun _ _=>trivial)⟩
   ·cases hs
  ·cases hs
 |_=>simp[sem,semW] at hs
theorem sim_mks(hi:Inv cx G a w A σ)(hkd:∀t,cx.kd t=fi.kind t)(hnt:cx.nt=fi.nt){o:Oper}{t e:TypeId}{l c:Operand}{d:Nat}(ho:o.op=.makeSlice t l c)(hod:o.dst=some d)
  (ht:P.underlying t=some (.slice e)) {it:TypeInfo} (hit:P.info? e=some it) {z:PV} (hz:zeroP P e=some z) (hs0:0<it.size) (hby:it.bytes≤4096) (hzl:z.cells.length=it.size)
  {as:List AArg} (hc:Aq2 fi [l,c]=some as) (hd:AqK fi d=true) (hrun:runA pur call { dst:=some d,k:=.w (.mks it.size z),args:=as } A σ=some (A',σ')):Gives P cx o a w A' σ':=by
 obtain⟨vs,rs,he,hs,hA,_⟩:=runK hrun;obtain⟨y,zs,rfl,hy,hz'⟩:=Aq3 hc;obtain⟨y2,zs,rfl,hy2,hz'⟩:=Aq3 hz';cases hz';obtain⟨p,qs,rfl,hp,hq⟩:=Aq1 he;obtain⟨p2,qs,rfl,hp2,hq⟩:=Aq1 hq;cases hq;have hdv:=AxN hkd hnt hd;simp only[sem] at hs;cases p with
 |int k1 n=>cases p2 with
  |int k2 m=>
   simp only[semW] at hs
   split at hs
   case isFalse=>cases hs
   rename_i hcc;obtain⟨rfl,h0,hmax,_,_⟩:=hcc;cases hs;rw[hA rfl];have e1:=(Aq5 hi hkd hy hp rfl).AqF;have e2:=(Aq5 hi hkd hy2 hp2 rfl).AqF;unfold zeroP at hz;rw[hit] at hz;obtain⟨zv,hzv,hzp⟩:=Option.bind_eq_some_iff.1 hz;have hzr:Rep G.I w zv z:=AxF hzp;obtain⟨r1,r2⟩:=AxS hzr;have hmx:(AqC:Int)=4294967296:=rfl
   have hbb:(it.bytes:Int) * n≤281474976710656:=by
    have h1:(it.bytes:Int) * n≤4096 * n:=Int.mul_le_mul_of_nonneg_right (by omega) h0
    omega
   have hmk:=run_make (P:=P) w t e it zv ht hit hzv k1 k2 n n h0 (Int.le_refl _) hbb (by omega)
   have hr:(execOp a.eval o).run P w=.ok (.value (.slice (some ⟨w.heap.size,0,none⟩) n.toNat n.toNat)) (w.alloc (.cells (madeCells zv.cells (n.toNat * it.size)) e)):=by
    simp only[execOp,ho,e1,e2,Sem.run_bind,hmk,Result.andThen_ok];rfl
   refine new_arr hi hdv hod (Ext.refl _ _ _) hi.base hs0 (Nat.le_refl _) (size_madeCells _ _) (by simp) (fun i q hq=>?_) hr
   rw[List.getElem?_replicate] at hq
   split at hq
   case isFalse=>cases hq
   rename_i hin;cases hq;refine⟨hzl,fun j u hu=>.one (.inl ?_)⟩
   have hj:j<it.size:=by rw[←hzl];exact(List.getElem?_eq_some_iff.1 hu).1
   have hlt:0+i * it.size+j<n.toNat * it.size:=by
    have:(i+1) * it.size≤n.toNat * it.size:=Nat.mul_le_mul_right _ (by omega)
    rw[Nat.succ_mul] at this;omega
   have:=r2 j u hu
   have hg:(madeCells zv.cells (n.toNat * it.size)).getD (0+i * it.size+j) undef=zv.cells.getD j undef:=by
    have hmod:(0+i * it.size+j) % zv.cells.size=j:=by
     rw[r1,hzl,Nat.zero_add,Nat.add_comm,Nat.add_mul_mod_self_right,Nat.mod_eq_of_lt hj]
    have hjs:j<zv.cells.size:=by rw[r1,hzl];exact hj
    rw[Array.getD_eq_getD_getElem?,Array.getD_eq_getD_getElem?];simp only[madeCells,Array.getElem?_map,Array.getElem?_range,hlt,if_true,Option.map_some,hmod]
    simp[hjs]
   rw[hg];exact this
  |_=>simp[semW] at hs
 |_=>simp[semW] at hs
theorem AXF(w:World)(t tx ty e:TypeId)(i:TypeInfo)(z:Value)(ht:P.underlying t=some (.slice e)){k':IntKind}(hx:P.underlying tx=some (.int k'))(hi:P.info? e=some i)(hz:i.zero=some z)(k:IntKind)(n:Nat)(hn:0<n)(hmax:n≤AqC)(hby:i.bytes≤4096)(hs0:0<i.size):
  (Builtin.append_ #[t,tx] ty #[.slice none 0 0,.int k n]).run P w =
   .ok (.slice (some ⟨w.heap.size,0,none⟩) n (grownCap w n 0 e)) (w.drew.alloc (.cells (Builtin.zeroCells z.cells n++Builtin.zeroCells z.cells (grownCap w n 0 e - n)) e)):=by
 unfold AqC at hmax;have hw:IntKind.i64.wrap (n:Int)=n:=by rw[IntKind.wrap_i64];omega
 have h1:¬((n:Int) < 0):=by omega
 have hbb:n * i.bytes≤4294967296 * 4096:=Nat.mul_le_mul hmax hby
 have h2:¬(281474976710656<(n:Int) * i.bytes):=by
  rw[←Int.natCast_mul];omega
 have h3:¬(9223372036854775807<(n:Int)):=by omega
 have h5:¬(281474976710656<Builtin.nextslicecap n 0 * i.bytes):=by
  have:=AjY (old:=0) hn (by unfold AqC;exact hmax) hby
  omega
 have h6:n≠0:=by omega
 have h7:i.size≠0:=by omega
 have h8:¬(n≤0):=by omega
 have h9:¬(n=0∨i.size=0):=by omega
 simp[Builtin.append_,run_underlying ht,run_underlying hx,sizeOf,typeInfo,zeroValue,hi,hz,asInt,asIntOf,hw,h1,h2,h3,h5,h6,h7,Question.forced,run_firstCells_none,newRow,grownCap];intro hbad;have:=Nat.mul_pos hn hs0;omega
theorem sim_appZ(hi:Inv cx G a w A σ)(hkd:∀t,cx.kd t=fi.kind t)(hnt:cx.nt=fi.nt){o:Oper}{c:Call}(ho:o.op=.call c)(hb:c.callee=.builtin .append)
  {sT xT e:TypeId} {d:Nat} {y1 y:Operand} (hargs:c.args=#[y1,y]) (htys:c.argTypes=#[sT,xT]) (hod:o.dst=some d)
  (hsT:P.underlying sT=some (.slice e)) {k':IntKind} (hxT:P.underlying xT=some (.int k')) {it:TypeInfo} (hit:P.info? e=some it) {z:PV} (hz:zeroP P e=some z)
  (hs0:0<it.size) (hby:it.bytes≤4096) (hzl:z.cells.length=it.size)
  {as:List AArg} (hc:Aq2 fi [y1,y]=some as) (hd:AqK fi d=true)
  (hrun:runA pur call { dst:=some d,k:=.w (.appZ it.size z),args:=as } A σ=some (A',σ')):Gives P cx o a w A' σ':=by
 obtain⟨vs,rs,he,hs,hA,_⟩:=runK hrun;obtain⟨z1,zs,rfl,hy1,hz1⟩:=Aq3 hc;obtain⟨z2,zs,rfl,hy2,hz1⟩:=Aq3 hz1;cases hz1;obtain⟨s,qs,rfl,hp,hq⟩:=Aq1 he;obtain⟨x,qs,rfl,hp2,hq⟩:=Aq1 hq;cases hq;have hdv:=AxN hkd hnt hd;simp only[sem] at hs;cases s with
 |nils=>cases x with
  |int k n=>
   simp only[semW] at hs
   split at hs
   case isFalse=>cases hs
   rename_i hcc;obtain⟨h0,hmax,_⟩:=hcc;cases hs;rw[hA rfl];have e1:=(Aq5 hi hkd hy1 hp rfl).AxB;have e2:=(Aq5 hi hkd hy2 hp2 rfl).AqF;unfold zeroP at hz;rw[hit] at hz;obtain⟨zv,hzv,hzp⟩:=Option.bind_eq_some_iff.1 hz;have hzr:Rep G.I w zv z:=AxF hzp;obtain⟨r1,r2⟩:=AxS hzr;obtain⟨consts,hrun'⟩:=Ax3 (P:=P) (w:=w) (a:=a) ho hb;rw[hargs,htys] at hrun';have hev:(#[y1,y].map a.eval)=#[a.eval y1,a.eval y]:=by simp
   rw[hev,e1,e2] at hrun';have hnn:((n.toNat:Nat):Int)=n:=by omega
   have hmk:=AXF (P:=P) w sT xT o.type e it zv hsT hxT hit hzv k n.toNat (by omega) (by omega) hby hs0
   rw[hnn] at hmk
   have hfin:∀{v:Value} {w':World},(Builtin.append_ #[sT,xT] o.type #[.slice none 0 0,.int k n]).run P w=.ok v w'→(execOp a.eval o).run P w=.ok (.value v) w':=by
    intro v w' h;rw[hrun'];simp only[builtin,Sem.run_bind,h,Result.andThen_ok,Sem.run_pure]
   have hr:=hfin hmk;have hcap:n.toNat≤grownCap w n.toNat 0 e:=grownCap_ge ..;have hzs:zv.cells.size=it.size:=by rw[r1,hzl]
   refine new_arr hi hdv hod (AkF (G:=G) (w:=w) (fun _=>False)) (AxW hi.base) hs0 hcap ?_ (by simp) (fun i q hq=>?_) hr
   ·simp only[Array.size_append,Builtin.zeroCells,Array.size_map,Array.size_range,hzs];rw[←Nat.add_mul];congr 1;omega
   ·rw[List.getElem?_replicate] at hq
    split at hq
    case isFalse=>cases hq
    rename_i hin;cases hq;refine⟨hzl,fun j u hu=>.one (.inl ?_)⟩
    have hj:j<it.size:=by rw[←hzl];exact(List.getElem?_eq_some_iff.1 hu).1
    have hlt:0+i * it.size+j<n.toNat * it.size:=by
     have:(i+1) * it.size≤n.toNat * it.size:=Nat.mul_le_mul_right _ (by omega)
     rw[Nat.succ_mul] at this;omega
    have:=r2 j u hu
    have hg:(Builtin.zeroCells zv.cells n.toNat++Builtin.zeroCells zv.cells (grownCap w n.toNat 0 e - n.toNat)).getD (0+i * it.size+j) undef=zv.cells.getD j undef:=by
     have hmod:(0+i * it.size+j) % zv.cells.size=j:=by
      rw[hzs,Nat.zero_add,Nat.add_comm,Nat.add_mul_mod_self_right,Nat.mod_eq_of_lt hj]
     have hjs:j<zv.cells.size:=by rw[hzs];exact hj
     have hlt2:0+i * it.size+j<n.toNat * zv.cells.size:=by rw[hzs];exact hlt
     rw[Array.getD_eq_getD_getElem?,Array.getD_eq_getD_getElem?,Array.getElem?_append_left (by simpa [Builtin.zeroCells] using hlt2)]
     simp only[Builtin.zeroCells,Array.getElem?_map,Array.getElem?_range,hlt2,if_true,Option.map_some,hmod]
     simp[hjs]
    rw[hg];exact this
  |_=>simp[semW] at hs
 |_=>simp[semW] at hs
theorem sim_bse(hi:Inv cx G a w A σ)(hkd:∀t,cx.kd t=fi.kind t)(hnt:cx.nt=fi.nt){o:Oper}{t e:TypeId}(ho:o.op=.buildSlice t 0 #[])
  (ht:P.underlying t=some (.slice e)) {size:Nat} {ag:Bool} (hsz:AqG P e=some (size,ag))
  (hd:Aq7 fi o.dst=true) (hrun:runA pur call { dst:=o.dst,k:=.p .bse,args:=[] } A σ=some (A',σ')):Gives P cx o a w A' σ':=by
 refine givesW hi (AqV hkd hnt hd) hrun fun vs rs he hs=>?_
 cases he;cases hs;have hext:=AxD (fun _=>False) hi.base (.cells #[] e) (fun _=>False) (none:Option Tag)
 refine⟨_,.slice (some ⟨w.heap.size,0,none⟩) 0 0,G.newB w.heap.size (fun _=>False) none,w.alloc (.cells #[] e),rfl,rfl,?_,hext,Ax0 hi.base _ _ _,rfl,.one (.inl .empt),fun _ _=>trivial⟩
 simp only[execOp,ho,Instr.buildSlice,Sem.run_bind,underlying,run_program,ht,Result.andThen_ok,Sem.run_pure,run_sizeOf hsz,newRow,run_newObj];have hz0:(Array.map (fun _=>(default:Value)) (Array.range 0))=#[]:=by apply Array.eq_empty_of_size_eq_zero;simp
 simp[Instr.fill,run_newObj];rw[hz0]
theorem AQD(op:BinOp)(t:TypeId)(x y:Operand)(ad:Option Addr)(l c:Nat):(eqGuard op t x y (.slice ad l c) (.slice none 0 0)).run P w=.ok () w:=by
 cases op<;>rfl
theorem AZ1{t e:TypeId}(ht:P.underlying t=some (.slice e))(ad:Option Addr)(l c:Nat):(Op.equal t (.slice ad l c) (.slice none 0 0)).run P w=.ok (ad.isNone) w:=by
 show(Op.equalIn (9999+1) t _ _).run P w=_;generalize 9999=d;cases ad<;>simp[Op.equalIn,underlying,ht]
theorem sim_snil(hi:Inv cx G a w A σ)(hkd:∀t,cx.kd t=fi.kind t)(hnt:cx.nt=fi.nt){o:Oper}{ne:Bool}{op:BinOp}(hop:op=if ne then .neq else .eql){t yt e:TypeId}{x y:Operand}(ho:o.op=.binOp op t x y yt)(ht:P.underlying t=some (.slice e))
  {as:List AArg} (hc:Aq2 fi [x,y]=some as) (hd:Aq7 fi o.dst=true) (hrun:runA pur call { dst:=o.dst,k:=.p (.snil ne),args:=as } A σ=some (A',σ')):Gives P cx o a w A' σ':=by
 refine AzR hi hkd hnt hd hrun fun vs rs he hs=>?_
 obtain⟨y1,zs,rfl,hy1,hz⟩:=Aq3 hc;obtain⟨y2,zs,rfl,hy2,hz⟩:=Aq3 hz;cases hz;obtain⟨p1,qs,rfl,hp1,hq⟩:=Aq1 he;obtain⟨p2,qs,rfl,hp2,hq⟩:=Aq1 hq;cases hq;cases p2 with
 |nils=>
  have e2:=(Aq5 hi hkd hy2 hp2 rfl).AxB
  have key:∀(ad:Option Addr) (l c:Nat) (b:Bool),a.eval x=.slice ad l c→ad.isNone=b→(execOp a.eval o).run P w=.ok (.value (.bool (b != ne))) w:=by
   rintro ad l c b e1 rfl
   have hg:=AQD (P:=P) (w:=w) op t x y ad l c;have hq:=AZ1 (P:=P) (w:=w) ht ad l c
   have hb:(Go.binOp op t (.slice ad l c) (.slice none 0 0)).run P w=.ok (.bool (ad.isNone != ne)) w:=by
    cases ne with
    |true=>
     rw[if_pos rfl] at hop;subst hop;rw[binOp_neq hq rfl];cases ad<;>rfl
    |false=>
     rw[if_neg (by simp)] at hop
     subst hop;rw[binOp_eql hq rfl];cases ad<;>rfl
   simp[execOp,ho,e1,e2,hg,hb]
  cases p1 with
  |nils=>
   cases hs;have e1:=(Aq5 hi hkd hy1 hp1 rfl).AxB;have:=key _ _ _ true e1 rfl;exact⟨_,_,rfl,rfl,this,by cases ne<;>exact .one (.inl (.bool _)),fun _=>trivial⟩
  |slice own sz es=>
   cases hs;obtain⟨ad,len,cap,cv,e1,_⟩:=(Aq5 hi hkd hy1 hp1 rfl).Ax6;have:=key _ _ _ false e1 rfl;exact⟨_,_,rfl,rfl,this,by cases ne<;>exact .one (.inl (.bool _)),fun _=>trivial⟩
  |arr id gen off len sz=>
   cases hs;obtain⟨b,base,n,cap,b',o',_,_,_,_,e1⟩:=(Aq5 hi hkd hy1 hp1 rfl).AjQ;have:=key _ _ _ false e1 rfl;exact⟨_,_,rfl,rfl,this,by cases ne<;>exact .one (.inl (.bool _)),fun _=>trivial⟩
  |empt=>
   cases hs;obtain⟨ad,e1⟩:=(Aq5 hi hkd hy1 hp1 rfl).AjI;have:=key _ _ _ false e1 rfl;exact⟨_,_,rfl,rfl,this,by cases ne<;>exact .one (.inl (.bool _)),fun _=>trivial⟩
  |_=>simp[semP] at hs
 |_=>simp[semP] at hs
theorem sim_ldz(hi:Inv cx G a w A σ)(hkd:∀t,cx.kd t=fi.kind t)(hnt:cx.nt=fi.nt){o:Oper}{t:TypeId}{s d:Nat}(ho:o.op=.load t (.tmp s))(hod:o.dst=some d)(hk:cx.kd s=.box){n k:Nat}(hn:AqG P t=some (n,true))
  (hd:AqK fi d=true) (hrun:runA pur call { dst:=some d,k:=.w (.ldz n k),args:=[.slot s],ex:=[s] } A σ=some (A',σ')):Gives P cx o a w A' σ':=by
 obtain⟨vs,rs,he,hs,hA,_⟩:=runK hrun;obtain⟨c,qs,rfl,hp,hq⟩:=Aq1 he;cases hq;have hdv:=AxN hkd hnt hd;have hne:d≠s:=by rintro rfl;rw[hk] at hdv;simp[SK.val] at hdv
 obtain⟨hg,_⟩:=AqQ hp;simp only[sem] at hs
 have hsl:s<A.length:=by
  unfold Frm.get at hg;cases h:A[s]? with
  |none=>rw[h] at hg;cases hg
  |some _=>exact(List.getElem?_eq_some_iff.1 h).1
 have key:∀{G':Gh} {σ1:Sto} {cs':List PV} {v:PV},Inv cx G' a w (A.set s (some (.agg cs'))) σ1→sub (.agg cs') 0 n true=some v→rs=[some v.Aq0,some (.agg cs')]→σ'=σ1→Gives P cx o a w A' σ':=by
  intro G' σ1 cs' v hi' hv e1 e2;subst e1 e2;have hA':=hA rfl;have hvB:subB (.agg cs') 0 n true=some v:=by unfold subB;rw[hv]
  have hgs:Frm.get (A.set s (some (PV.agg cs'))) s=some (.agg cs'):=by rw[AqL,if_pos ⟨rfl,hsl⟩]
  refine sim_ldl (pur:=pur) (call:=call) hi' hkd hnt ho hk hn (by rw[hod];exact hd) ?_
  rw[hod];simp only[runA,Aq8,hgs,sem,semP,hvB,Option.map_some,AOp.wr,Option.toList,List.length_cons,List.length_nil,List.append_nil,if_true,List.map_nil,AqO];rw[hA'];simp only[AOp.wr,Option.toList,List.append_nil,List.map_nil,AqO,List.cons_append,List.nil_append];rw[List.set_comm _ _ (fun e=>hne e)]
 have hbox:=hi.slot s c hg;cases c with
 |agg cs=>
  simp only[semW] at hs
  split at hs
  ·rename_i id gen off len size hx
   split at hs
   case h_2=>cases hs
   rename_i es hes
   split at hs
   case isFalse=>cases hs
   rename_i hfl;obtain⟨v,hv,e⟩:=Option.map_eq_some_iff.1 hs;cases e;obtain⟨G',hi',hrep⟩:=frz_core hi hes hfl;refine key (hi'.reset ?_) hv rfl rfl
   obtain⟨b,hb,hcell⟩:=(AqM hk).1 hbox;obtain⟨b',hb',hcell'⟩:=(AqM hk).1 (hi'.slot s _ hg);rw[hb] at hb';cases hb';refine(AqM hk).2 ⟨b,hb,?_⟩
   obtain⟨c1,c2,cells,elem,c3,c4,c5⟩:=hcell';obtain⟨_,_,cells2,elem2,d3,d4,d5⟩:=hcell;rw[c3] at d3;cases d3;refine⟨c1,c2,cells,elem,c3,by rw[c4];simp[PV.cells],fun j p hp=>?_⟩
   simp only[PV.cells] at hp;rw[List.getElem?_set] at hp
   split at hp
   ·rename_i e;subst e
    split at hp
    ·cases hp;exact .inl ⟨.one (.inl (hrep _ ((d5 _ _ hx).rep (by simp)).1)),trivial⟩
    ·cases hp
   ·exact c5 j p hp
  ·obtain⟨v,hv,e⟩:=Option.map_eq_some_iff.1 hs;cases e;exact key (hi.reset hbox) hv rfl rfl
 |_=>simp[semW] at hs
theorem sim_fld(hi:Inv cx G a w A σ)(hkd:∀t,cx.kd t=fi.kind t)(hnt:cx.nt=fi.nt){o:Oper}{t:TypeId}{x:Operand}{f:Nat}(ho:o.op=.field t x f)
  {fs:Array Field} {fl:Field} (hs':P.underlying t=some (.struct fs)) (hf:fs[f]?=some fl) {n:Nat} {ag:Bool} (hn:AqG P fl.type=some (n,ag))
  {as:List AArg} (hc:Aq2 fi [x]=some as) (hd:Aq7 fi o.dst=true) (hrun:runA pur call { dst:=o.dst,k:=.p (.fld fl.offset n ag),args:=as } A σ=some (A',σ')):Gives P cx o a w A' σ':=by
 refine AzR hi hkd hnt hd hrun fun vs rs he hs=>?_
 obtain⟨y,zs,rfl,hy,hz⟩:=Aq3 hc;cases hz;obtain⟨p,qs,rfl,hp,hq⟩:=Aq1 he;cases hq;cases p with
 |agg ps=>
  obtain⟨cs,hv,hsz,hr⟩:=(Aq5 hi hkd hy hp rfl).agg_inv;simp only[semP] at hs;obtain⟨v,hsub,e⟩:=Option.map_eq_some_iff.1 hs;cases e;have hsc:=Aw4 hsub;have hfit:=fits_sub hsub;cases ag with
  |true=>
   cases v with
   |agg qs=>
    simp[fits] at hfit;refine⟨_,.agg (cs.extract fl.offset (fl.offset+n)),rfl,rfl,?_,?_,fun _=>AqA (.agg qs)⟩
    ·simp[execOp,ho,Instr.field,underlying,hs',hf,hv,asAgg,part,Aj7 hn,run_sizeOf hn]
    ·have hle:fl.offset+n≤ps.length:=by
      unfold sub at hsub;dsimp only at hsub
      split at hsub
      ·rename_i h;exact h.1
      ·cases hsub
     refine(RepT.one (.inl (.agg (by simp[hfit];omega) fun i p hp=>?_))).Aq0
     have hlt:=(List.getElem?_eq_some_iff.1 hp).1
     have:=hr _ _ (hsc i p hp)
     have e:(cs.extract fl.offset (fl.offset+n)).getD i undef=cs.getD (fl.offset+i) undef:=by
      rw[Array.getD_eq_getD_getElem?,Array.getElem?_extract,if_pos (by omega),Array.getD_eq_getD_getElem?]
     rw[e];exact this
   |_=>simp[fits] at hfit
  |false=>
   have hvc:v.cells=[v]:=by cases v<;>first | rfl | simp[fits] at hfit
   have h0:=hsc 0 v (by rw[hvc];rfl)
   have hlt:=(List.getElem?_eq_some_iff.1 h0).1
   have hrep:=hr _ _ h0;simp only[PV.cells,Nat.add_zero] at hlt hrep;refine⟨_,cs.getD fl.offset undef,rfl,by rw[AqH];exact rep_free hrep,?_,(RepT.one (.inl hrep)).Aq0,fun _=>AqA v⟩
   have hcs:fl.offset<cs.size:=by omega
   simp[execOp,ho,Instr.field,underlying,hs',hf,hv,asAgg,part,Aj7 hn,hcs,Array.getD]
 |_=>simp[semP] at hs
theorem freeze_block(w:World)(b k:Nat):AzO b w (w.freeze ⟨b,k,none⟩ 1):=by
 unfold World.freeze;rw[if_neg (by decide)]
 exact⟨fun j hj=>by simp[Array.getElem?_modify,Ne.symm hj],by simp,rfl,rfl,rfl⟩
theorem freeze_cells{b k:Nat}{cs:Array Value}{elem:TypeId}{fz:Nat×Nat}(h:w.heap[b]?=some (.cells cs elem fz)):∃fz',(w.freeze ⟨b,k,none⟩ 1).heap[b]?=some (.cells cs elem fz'):=by
 unfold World.freeze;rw[if_neg (by decide)]
 obtain⟨lo,hi⟩:=fz;refine⟨if lo==hi then(k,k+1) else(min lo k,max hi (k+1)),?_⟩
 simp only[Array.getElem?_modify,if_true,h,Option.map_some]
theorem sim_cvi(hi:Inv cx G a w A σ)(hkd:∀t,cx.kd t=fi.kind t)(hnt:cx.nt=fi.nt){o:Oper}{s t e e':TypeId}{u d:Nat}(ho:o.op=.convert s t (.tmp u))(hst:s=t)(hod:o.dst=some d)
  (hs:P.underlying s=some (.slice e')) (ht:P.underlying t=some (.slice e)) (he:P.underlying e=some (.int .u8))
  {as:List AArg} (hc:Aq2 fi [.tmp u]=some as) (hd:AqK fi d=true) (hu:AqK fi u=true) (hne:d≠u)
  (hrun:runA pur call { dst:=some d,k:=.p .cvi,args:=as,ex:=[u] } A σ=some (A',σ')):Gives P cx o a w A' σ':=by
 subst hst;obtain⟨vs,rs,hea,hsem,rfl,hA⟩:=run2 hrun;obtain⟨y,zs,rfl,hy,hz⟩:=Aq3 hc;cases hz;obtain⟨p,qs,rfl,hp,hq⟩:=Aq1 hea;cases hq
 have hyy:y=.slot u:=by
  simp only[AxQ] at hy
  split at hy<;>first | (split at hy<;>first | (cases hy;rfl) | cases hy) | cases hy
 subst hyy;cases p with
 |slice own sz es=>
  cases own with
  |false=>simp[semP] at hsem
  |true=>
   simp only[semP] at hsem
   split at hsem
   case isFalse=>cases hsem
   rename_i hsz;subst hsz;cases hsem;rw[hA _ _ rfl];have huv:=AxN hkd hnt hu;have hdv:=AxN hkd hnt hd;obtain⟨hrep,how⟩:=Aw5 hi huv.2 hp rfl;obtain⟨b,off,cap,cs,elem,ev,hω,hIn,hIt,hheap,hcs,h0,hle⟩:=how
   let w':=w.freeze ⟨b,cs.size,none⟩ 1
   let G':=G.shut b fun _=>False
   have hob:=freeze_block w b cs.size
   have hcell:∀j,w'.cell? ⟨b,j,none⟩=w.cell? ⟨b,j,none⟩:=by
    intro j;obtain⟨fz',hf⟩:=freeze_cells (k:=cs.size) hheap;show World.cell? (w.freeze _ _) _=_;simp only[World.cell?,hf,hheap]
   have hsame:Same G.I w w':=by
    refine⟨fun b' j h=>?_,fun b' h=>hob.other _ (fun e=>hIn (e▸h))⟩
    by_cases hb:b'=b
    ·subst hb;exact hcell j
    ·exact cell_of_heap (hob.other _ hb)
   have hext:Ext (fun tg=>tg=.slot u none∨tg=.slot d none) G G' w w':=by
    refine⟨fun _ _ h=>.inl h,hsame,Bl.le_refl _,fun _ _ _ _=>rfl,fun b' tg h hX=>?_⟩
    have hbb:b'≠b:=by
     intro e;subst e;rw[hω] at h;cases h;exact hX (.inl rfl)
    refine⟨by simp[G',Gh.shut,hbb,h],hob.other _ hbb,fun x hx=>?_⟩
    rcases hx with hx | ⟨_,hx⟩
    ·exact hx
    ·exact hx.elim
   have hnK:=(hi.base.own b _ hω).2
   have hbase:Base cx G' w':=by
    have hb0:=AQ3 hi.base hω (fun _=>False)
    refine⟨fun b' hK=>?_,hi.base.same.trans hsame hi.base.sub,hb0.sub,hb0.new,fun b' x h=>?_,fun b' tg h=>?_,hb0.Klt,?_,hb0.bl,?_,?_,?_⟩
    ·rw[hob.other _ (fun e=>hnK (e▸hK))];exact hb0.keep b' hK
    ·rw[hob.size];exact hb0.lt b' x h
    ·rw[hob.size];exact hb0.own b' tg h
    ·rw[hob.size];exact hb0.grow
    ·rw[hob.os];exact hb0.os
    ·rw[hob.tape];exact hb0.tape
    ·rw[hob.output];exact hb0.output
   have hev:a.eval (.tmp u)=at' a u:=rfl
   have hrun':(execOp a.eval o).run P w=.ok (.value (at' a u)) w':=by
    have hsh:w.shape? b=some (elem,cs.size):=by simp[World.shape?,hheap]
    simp only[execOp,ho,hev,ev,convert,underlying];simp[hs,he,markStringish,hsh];rw[hs] at ht;cases ht;simp[he,markStringish,hsh];rfl
   refine .inl ⟨at' a u,w',hrun',G',?_⟩
   rw[hod];have hrep':=(hrep.mono hext.I hext.same hext.bl).Aq0;exact hi.put2 hdv huv hext hbase rfl rfl rfl hrep' (fun _=>trivial) (by rw[AxM _ _ _ _ (fun e=>hne (Option.some.inj e))];exact hrep') (fun _ _=>trivial)
 |_=>simp[semP] at hsem
end
end Go.Abs

namespace Go.Abs
open Go.RowKit
def AxY(I:Imm)(bl:Bl)(w:World)(vs:List Value)(ps:List PV):Prop:=
 vs.length=ps.length∧∀(i:Nat) (p:PV),ps[i]?=some p→∃v,vs[i]?=some v∧RepT I bl w v p
theorem AxY.append{I:Imm}{bl:Bl}{w:World}{vs ws:List Value}{ps qs:List PV}(h:AxY I bl w vs ps)(k:AxY I bl w ws qs):AxY I bl w (vs++ws) (ps++qs):=by
 refine⟨by simp[h.1,k.1],fun i p hp=>?_⟩
 by_cases hi:i<ps.length
 ·rw[List.getElem?_append_left hi] at hp
  obtain⟨v,h1,h2⟩:=h.2 i p hp;exact⟨v,by rw[List.getElem?_append_left (by rw[h.1];exact hi)];exact h1,h2⟩
 ·rw[List.getElem?_append_right (by omega)] at hp
  obtain⟨v,h1,h2⟩:=k.2 _ p hp;exact⟨v,by rw[List.getElem?_append_right (by rw[h.1];omega),h.1];exact h1,h2⟩
theorem AxY.Aq0{I:Imm}{bl:Bl}{w:World}{vs:List Value}{ps:List PV}(h:AxY I bl w vs ps):AxY I bl w vs (ps.map PV.Aq0):=by
 refine⟨by simp[h.1],fun i p hp=>?_⟩
 rw[List.getElem?_map] at hp
 obtain⟨q,hq,rfl⟩:=Option.map_eq_some_iff.1 hp;obtain⟨v,h1,h2⟩:=h.2 i q hq;exact⟨v,h1,h2.Aq0⟩
structure Pre(K:Nat→Prop)(G:Gh)(w:World)(σ:Sto):Prop where
 lt:∀b x,G.I b x→b<w.heap.size
 Klt:KOk K w
 own:∀b tag,G.ω b=some tag→b<w.heap.size∧¬K b
 obj:∀(id:Nat) (cs:List PV),σ[id]?=some cs→ObjOk G w id cs
 len:G.bl.l.length=σ.length
 abl:∀id g a,G.bl.ab id g=some a→id<σ.length
structure Aft(K:Nat→Prop)(G:Gh)(w:World)(σ':Sto)(G':Gh)(w':World):Prop where
 keep:∀b,K b→w'.heap[b]?=w.heap[b]?
 same:Same G.I w w'
 sub:∀b x,G.I b x→G'.I b x
 new:∀b x,G'.I b x→G.I b x∨¬K b
 lt:∀b x,G'.I b x→b<w'.heap.size
 own:∀b tag,G'.ω b=some tag→b<w'.heap.size∧¬K b
 grow:w.heap.size≤w'.heap.size
 bl:G.bl.le G'.bl
 os:w'.os=w.os
 tape:w'.tape=w.tape
 output:w'.output=w.output
 obj:∀(id:Nat) (cs:List PV),σ'[id]?=some cs→ObjOk G' w' id cs
 len:G'.bl.l.length=σ'.length
 abl:∀id g a,G'.bl.ab id g=some a→id<σ'.length
def Ax9(P:Program)(f:FuncId):Prop:=∃fn,P.funcs[f]?=some fn∧(fn.name == "runtime.NumGoroutine")=false∧fn.body.isNone=false
def AvR(P:Program)(f:FuncId)(args:List PV)(σ:Sto)(r:PV)(σ':Sto):Prop:=
 Ax9 P f∧∀(n:Nat) (vs:Array Value) (w:World) (G:Gh) (K:Nat→Prop),AxY G.I G.bl w vs.toList args→Pre K G w σ→
  CallsIn (FW none) n P f vs w fun e w'=>∃v G',e=.returned v∧RepT G'.I G'.bl w' v r∧Aft K G w σ' G' w'
def Sound(P:Program)(call:Caller):Prop:=
 ∀f args σ r σ',(∀p∈args,p.Aq0=p)→call f args σ=some (r,σ')→AvR P f args σ r σ'
theorem AwY(p:PV):p.Aq0.Aq0=p.Aq0:=by
 cases p with
 |agg cs=>
  simp only[PV.Aq0,List.map_map,PV.agg.injEq];apply List.map_congr_left;intro x _;cases x<;>rfl
 |aggr cs=>
  simp only[PV.Aq0,List.map_map,PV.aggr.injEq];apply List.map_congr_left;intro x _;cases x<;>rfl
 |_=>rfl
section
variable{P:Program}{pur:FuncId→Bool}{call:Caller}{fi:FI}{cx:Cx}{G:Gh}{a:Act}{w:World}{A A':Frm}{σ σ':Sto}
theorem callsIn_FW{ro ro':Option Nat}{n m:Nat}{f:FuncId}{vs:Array Value}{R:Ending→World→Prop}(h:CallsIn (FW ro) n P f vs w R):CallsIn (FW ro') m P f vs w R:=
 ⟨trivial,fun cs _=>h.2 cs (fun _ hd=>by cases hd)⟩
theorem AJI{ro:Option Nat}{n:Nat}{o:Oper}{c:Call}{K:Act→World→Prop}{Q:Exit→Act→World→Prop}(ho:o.op=.call c){x:Operand}(hcal:c.callee=.value x){f:FuncId}{fs cs:Array Value}(hx:a.eval x=.func (.func f) fs cs)
  (hent:Ax9 P f) (h:CallsIn (FW none) 0 P f (fs++c.args.map a.eval++cs) w fun e w'=>∃v,e=.returned v∧K (a.put o.dst v) w'):o.wpIn (FW ro) n P a w K Q:=by
 obtain⟨fn,hf,hname,hbody⟩:=hent;refine⟨fun _ _=>trivial,?_⟩
 rw[Oper.semAt_eq _ _ _ (by simp[ho])]
 have hrun:(execOp a.eval o).run P w=.ok (.enter f (fs++c.args.map a.eval++cs)) w:=by
  have h1:¬fn.name = "runtime.NumGoroutine" := by simpa using hname
  have h2:¬fn.body=none:=fun e=>by rw[e] at hbody;cases hbody
  simp[execOp,ho,resolve,hcal,hx,Deferred.ofValue,invoke,callFunc,hf,h1,h2]
 rw[hrun,Oper.uponIn_enter];refine⟨fun h=>by simp[FW] at h,(callsIn_FW h).mono fun e w'=>?_⟩
 rintro⟨v,rfl,hk⟩
 exact hk
theorem ObjOk.congr{G':Gh}{id:Nat}{cs:List PV}(hI:G'.I=G.I)(hω:∀b i j,G.ω b=some (.obj i j)→G'.ω b=some (.obj i j))(hbl:G'.bl=G.bl)(h:ObjOk G w id cs):ObjOk G' w id cs:=by
 obtain⟨b,h1,hh⟩:=h;refine⟨b,by rw[hbl];exact h1,?_⟩
 rcases hh with⟨h2,h3,cs',elem,h4,h5,h6⟩ | ⟨t,e,l,rfl,h2,h3,p,v,hp,h4,h5,h6⟩ | h | ⟨gen,size,es,rfl,b1,base,n,cs,elem,g1,g2,g3,g4,g5,g6,g7,g8,g9⟩ | ⟨d,z,ks,vs,rfl,m1,m2,m3,es,m4,m5,m6⟩
 rotate_left
 ·refine .inr (.inl ⟨t,e,l,rfl,hω _ _ _ h2,by rw[hI];exact h3,p,v,hp,h4,h5,fun g hg=>?_⟩)
  obtain⟨e1,e2,e3⟩:=h6 g hg;exact⟨e1,hω _ _ _ e2,by rw[hI];exact e3⟩
 ·exact .inr (.inr (.inl h))
 ·exact .inr (.inr (.inr (.inl ⟨gen,size,es,rfl,b1,base,n,cs,elem,by rw[hbl];exact g1,by rw[hbl];exact g2,hω _ _ _ g3,by rw[hI];exact g4,g5,g6,g7,g8,by rw[hI,hbl];exact g9⟩)))
 ·exact .inr (.inr (.inr (.inr ⟨d,z,ks,vs,rfl,hω _ _ _ m1,by rw[hI];exact m2,m3,es,m4,m5,by rw[hI,hbl];exact m6⟩)))
 refine .inl ⟨hω _ _ _ h2,by rw[hI];exact h3,cs',elem,h4,h5,fun j p hp=>?_⟩
 rcases h6 j p hp with⟨hr,ho⟩ | hself
 rotate_left
 ·exact .inr hself
 refine .inl ⟨by rw[hI,hbl];exact hr,?_⟩
 unfold OwnOk at ho ⊢;split
 ·rename_i size es;obtain⟨b',off,cap,cs2,elem2,e1,e2,e3,e4,e5,e6,e7,e8⟩:=ho;exact⟨b',off,cap,cs2,elem2,e1,hω _ _ _ e2,by rw[hI];exact e3,by rw[hI];exact e4,e5,e6,e7,e8⟩
 ·trivial
def Gh.lend(G:Gh):Gh:=⟨G.I,fun b=>match G.ω b with | some (.obj i j)=>some (.obj i j) | _=>none,G.bl⟩
def Gh.lentK(G:Gh)(w:World)(b:Nat):Prop:=b<w.heap.size∧∀i j,G.ω b≠some (.obj i j)
def Gh.back(G:Gh)(w:World)(G1:Gh):Gh:=⟨G1.I,fun b=>match G1.ω b with | some (.obj i j)=>some (.obj i j) | _=>if b<w.heap.size then(match G.ω b with | some (.slot t j)=>some (.slot t j) | _=>none) else none,G1.bl⟩
theorem lend_obj{b i:Nat}{j:Option Nat}:G.lend.ω b=some (.obj i j)↔G.ω b=some (.obj i j):=by
 simp only[Gh.lend];split
 ·rename_i i' j' h;rw[h]
 ·rename_i h;constructor
  ·intro h';cases h'
  ·intro h';exact absurd h' (h i j)
theorem K_lent(hi:Inv cx G a w A σ){b:Nat}(h:cx.K b):G.lentK w b:=
 ⟨Nat.lt_of_lt_of_le (hi.base.Klt b h) hi.base.grow,fun i j he=>(hi.base.own b _ he).2 h⟩
theorem tab_now(hi:Inv cx G a w A σ){b:Nat}{cs:Array Value}(h:tabs b=some cs):cx.K b∧∃t f,w.heap[b]?=some (.cells cs t f):=by
 obtain⟨h1,t,f,h2⟩:=hi.base.Klt.tab b cs h;exact⟨h1,t,f,(hi.base.keep b h1).trans h2⟩
theorem pre_lend(hi:Inv cx G a w A σ):Pre (G.lentK w) G.lend w σ:=by
 refine⟨hi.base.lt,⟨fun b h=>h.1,fun b o h=>⟨K_lent hi (tab_now hi h).1,(tab_now hi h).2⟩⟩,fun b tag h=>?_,fun id cs h=>ObjOk.congr (G:=G) (G':=G.lend) rfl (fun b i j h=>lend_obj.2 h) rfl (hi.obj id cs h),hi.len,hi.abl⟩
 have:∃i j,tag=.obj i j:=by
  simp only[Gh.lend] at h
  split at h
  ·cases h;exact⟨_,_,rfl⟩
  ·cases h
 obtain⟨i,j,rfl⟩:=this;rw[lend_obj] at h;exact⟨(hi.base.own b _ h).1,fun hk=>hk.2 i j h⟩
theorem back_obj{G1:Gh}{b i:Nat}{j:Option Nat}(h:G1.ω b=some (.obj i j)):(G.back w G1).ω b=some (.obj i j):=by
 simp only[Gh.back,h]
theorem ext_back{G1:Gh}{w':World}{σ1:Sto}(ha:Aft (G.lentK w) G.lend w σ1 G1 w')(hi:Inv cx G a w A σ):Ext (fun tg=>∃i j,tg=.obj i j) G (G.back w G1) w w':=by
 refine⟨ha.sub,ha.same,ha.bl,fun id _ hX=>absurd ⟨id,none,rfl⟩ (hX none),fun b tag h hX=>?_⟩
 cases tag with
 |obj i j=>exact absurd ⟨i,j,rfl⟩ hX
 |slot t j=>
  have hK:G.lentK w b:=⟨(hi.base.own b _ h).1,fun i j he=>by rw[h] at he;cases he⟩
  have hn:G1.ω b=none:=by
   cases hg:G1.ω b with
   |none=>rfl
   |some tag=>exact absurd hK (ha.own b tag hg).2
  refine⟨by simp only[Gh.back,hn,hK.1,if_true,h],ha.keep b hK,fun x hx=>?_⟩
  rcases ha.new b x hx with h' | h'
  ·exact h'
  ·exact absurd hK h'
theorem base_back{G1:Gh}{w':World}{σ1:Sto}(ha:Aft (G.lentK w) G.lend w σ1 G1 w')(hi:Inv cx G a w A σ):Base cx (G.back w G1) w':=by
 refine⟨fun b h=>?_,hi.base.same.trans ha.same hi.base.sub,fun b x h=>ha.sub b x (hi.base.sub b x h),fun b x h=>?_,ha.lt,fun b tag h=>?_,hi.base.Klt,Nat.le_trans hi.base.grow ha.grow,hi.base.bl.trans ha.bl,ha.os.trans hi.base.os,ha.tape.trans hi.base.tape,ha.output.trans hi.base.output⟩
 ·rw[ha.keep b (K_lent hi h)];exact hi.base.keep b h
 ·rcases ha.new b x h with h' | h'
  ·exact hi.base.new b x h'
  ·exact .inr fun hk=>h' (K_lent hi hk)
 ·simp only[Gh.back] at h
  split at h
  ·rename_i i j hg;cases h;have:=ha.own b _ hg;exact⟨this.1,fun hk=>this.2 (K_lent hi hk)⟩
  ·split at h
   ·rename_i hlt
    split at h
    ·rename_i t j hg;cases h;exact⟨Nat.lt_of_lt_of_le hlt ha.grow,(hi.base.own b _ hg).2⟩
    ·cases h
   ·cases h
theorem inv_back{G1:Gh}{w':World}{v:Value}{r:PV}(hi:Inv cx G a w A σ)(ha:Aft (G.lentK w) G.lend w σ' G1 w')(dst:Option Nat)(hdst:∀d,dst=some d→d<cx.nt∧(cx.kd d).val=true)
  (hr:RepT G1.I G1.bl w' v r):Inv cx (G.back w G1) (a.put dst v) w' (setO A dst r.Aq0) σ':=by
 have hvr:=hr.Aq0;refine hi.step _ dst v (ext_back ha hi) (base_back ha hi) (by cases dst<;>simp[setO]) ?_ (fun id cs hc=>.inr (ObjOk.congr (G:=G1) (G':=G.back w G1) rfl (fun b i j h=>back_obj h) rfl (ha.obj id cs hc))) ha.len ha.abl
 intro t q hq;cases dst with
 |none=>exact .inl ⟨hq,by simp,fun j h=>(by obtain⟨_,_,h⟩:=h;cases h),fun _ _ _ _=>by simp,fun _ _=>⟨by simp,fun h=>by obtain⟨_,_,h⟩:=h;cases h⟩⟩
 |some d=>
  obtain⟨hd1,hd2⟩:=hdst d rfl;simp only[setO,AqL] at hq
  split at hq
  ·rename_i hc;cases hq;refine .inr ?_
   rw[hc.1,Aq9 hd2 hvr.free,AxH _ _ _ (by rw[hi.size];exact hd1)]
   exact⟨hvr,AqA r⟩
  ·rename_i hc;have hne:d≠t:=fun e=>hc ⟨e.symm,by have:=hi.room;omega⟩
   refine .inl ⟨hq,fun e=>hne (Option.some.inj e),fun j h=>(by obtain⟨_,_,h⟩:=h;cases h),fun d' off e hbx e'=>?_,fun m hm=>⟨fun e'=>?_,fun h=>by obtain⟨_,_,h⟩:=h;cases h⟩⟩
   ·cases e';rw[hbx] at hd2;simp[SK.val] at hd2
   ·cases e';obtain⟨keys,hk⟩:=cx.ents t d hm;rw[hk] at hd2;simp[SK.val] at hd2
def Gh.bare(G:Gh):Gh:=⟨G.I,fun _=>none,Bl.nil⟩
def Gh.after(G:Gh)(w:World)(G1:Gh):Gh:=⟨G1.I,fun b=>if b<w.heap.size then G.ω b else none,G.bl⟩
theorem pre_bare(hi:Inv cx G a w A σ):Pre (fun b=>b<w.heap.size) G.bare w []:=
 ⟨hi.base.lt,⟨fun b h=>h,fun b o h=>⟨Nat.lt_of_lt_of_le (hi.base.Klt b (tab_now hi h).1) hi.base.grow,(tab_now hi h).2⟩⟩,fun b tag h=>(by cases h),fun id cs h=>(by simp at h),rfl,fun id g a h=>(by cases h)⟩
theorem inv_after{G1:Gh}{w':World}{v:Value}{r:PV}(hi:Inv cx G a w A σ)(ha:Aft (fun b=>b<w.heap.size) G.bare w σ' G1 w')(dst:Option Nat)(hdst:∀d,dst=some d→d<cx.nt∧(cx.kd d).val=true)
  (hr:RepT G1.I G1.bl w' v r) (hf:r.flat=true):Inv cx (G.after w G1) (a.put dst v) w' (setO A dst r.Aq0) σ:=by
 have hrep:=(hr.flat hf).Aq0
 have hext:Ext (fun _=>False) G (G.after w G1) w w':=by
  refine⟨ha.sub,ha.same,Bl.le_refl _,fun _ _ _ _=>rfl,fun b tag h _=>?_⟩
  have hlt:=(hi.base.own b tag h).1;refine⟨by simp only[Gh.after,hlt,if_true,h],ha.keep b hlt,fun x hx=>?_⟩
  rcases ha.new b x hx with h' | h'
  ·exact h'
  ·exact absurd hlt h'
 have hbase:Base cx (G.after w G1) w':=by
  have hK:∀b,cx.K b→b<w.heap.size:=fun b h=>Nat.lt_of_lt_of_le (hi.base.Klt b h) hi.base.grow
  refine⟨fun b h=>?_,hi.base.same.trans ha.same hi.base.sub,fun b x h=>ha.sub b x (hi.base.sub b x h),fun b x h=>?_,ha.lt,fun b tag h=>?_,hi.base.Klt,Nat.le_trans hi.base.grow ha.grow,hi.base.bl,ha.os.trans hi.base.os,ha.tape.trans hi.base.tape,ha.output.trans hi.base.output⟩
  ·rw[ha.keep b (hK b h)];exact hi.base.keep b h
  ·rcases ha.new b x h with h' | h'
   ·exact hi.base.new b x h'
   ·exact .inr fun hk=>h' (hK b hk)
  ·simp only[Gh.after] at h
   split at h
   ·rename_i hlt;exact⟨Nat.lt_of_lt_of_le hlt ha.grow,(hi.base.own b tag h).2⟩
   ·cases h
 exact hi.put1 hext hbase rfl dst hdst (by rw[AqH];exact hr.free) (.one (.inl hrep)) (fun _ _=>AqA r)
theorem Av5(hi:Inv cx G a w A σ)(hkd:∀t,cx.kd t=fi.kind t){xs:Array Operand}{as:List AArg}(hc:Aq2 fi xs.toList=some as){ps:List PV}(he:Aq8 A as=some ps)(hf:ps.all PV.free=true):
  AxY G.I G.bl w (xs.map a.eval).toList ps:=by
 obtain⟨hl,hr⟩:=args_rep hi hkd hc he (fun p hp=>List.all_eq_true.1 hf p hp)
 refine⟨by simpa using hl,fun i p hp=>?_⟩
 have hlt:i<xs.size:=by have:=(List.getElem?_eq_some_iff.1 hp).1;simp at hl;omega
 have hx:xs.toList[i]?=some xs[i]:=by rw[Array.getElem?_toList];exact Array.getElem?_eq_getElem hlt
 exact⟨a.eval xs[i],by simp[hlt],hr i _ p hx hp⟩
theorem AxY.bare{vs:List Value}{ps:List PV}(h:AxY G.I G.bl w vs ps)(hf:ps.all PV.flat=true):AxY G.I Bl.nil w vs ps:=
 ⟨h.1,fun i p hp=>let ⟨v,h1,h2⟩:=h.2 i p hp;⟨v,h1,.one (.inl (h2.flat (List.all_eq_true.1 hf p (List.mem_of_getElem? hp))))⟩⟩
theorem flat_disown1(p:PV):p.Aq0.flat=p.flat:=by cases p<;>rfl
theorem AX4(ps:List PV):∀p∈ps.map PV.Aq0,p.Aq0=p:=by
 intro p hp;obtain⟨q,_,rfl⟩:=List.mem_map.1 hp;exact AwY q
theorem A_of{o:Oper}{k:AK}{as:List AArg}{p:PV}(h1:([some p]:List (Option PV)).length=o.dst.toList.length+([]:List Nat).length→A'=AqO A ({ dst:=o.dst,k:=k,args:=as }:AOp).wr ([some p]++([]:List Nat).map fun _=>none))
  (h2:([some p]:List (Option PV)).length≠o.dst.toList.length+([]:List Nat).length→A'=A∧o.dst=none):A'=setO A o.dst p:=by
 cases hdd:o.dst with
 |none=>
  rw[hdd] at h2;exact(h2 (by simp)).1
 |some d=>
  rw[hdd] at h1;rw[h1 rfl];simp[AOp.wr,AqO,setO]
theorem AJ3{ro:Option Nat}{n:Nat}{o:Oper}{c:Call}{K:Act→World→Prop}{Q:Exit→Act→World→Prop}(hS:Sound P call)(hi:Inv cx G a w A σ)(ho:o.op=.call c){x:Operand}(hcal:c.callee=.value x){f:FuncId}{fs cs:Array Value}(hx:a.eval x=.func (.func f) fs cs)
  (hdst:∀d,o.dst=some d→d<cx.nt∧(cx.kd d).val=true) {ps:List PV} (hargs:AxY G.I G.bl w (fs++c.args.map a.eval++cs).toList ps) {r:PV} {σ1:Sto}
  (hcall:call f (ps.map PV.Aq0) σ=some (r,σ1)) (hk:∀a' w',Sim cx a' w' (setO A o.dst r.Aq0) σ1→Kept o.dst a a'→K a' w'):o.wpIn (FW ro) n P a w K Q:=by
 obtain⟨hent,hcl⟩:=hS f _ σ r σ1 (AX4 ps) hcall;refine AJI ho hcal hx hent ((hcl 0 _ w G.lend (G.lentK w) hargs.Aq0 (pre_lend hi)).mono ?_)
 rintro e w' ⟨v,G1,rfl,hr,ha⟩
 exact⟨v,rfl,hk _ _ ⟨_,inv_back hi ha o.dst hdst hr⟩ (AwP _ _ _)⟩
theorem AjP{ro:Option Nat}{n:Nat}{o:Oper}{c:Call}{K:Act→World→Prop}{Q:Exit→Act→World→Prop}(hS:Sound P call)(hi:Inv cx G a w A σ)(ho:o.op=.call c){x:Operand}(hcal:c.callee=.value x){f:FuncId}{fs cs:Array Value}(hx:a.eval x=.func (.func f) fs cs)
  (hdst:∀d,o.dst=some d→d<cx.nt∧(cx.kd d).val=true) {ps:List PV} (hargs:AxY G.I G.bl w (fs++c.args.map a.eval++cs).toList ps) (hflat:(ps.map PV.Aq0).all PV.flat=true) {r:PV} {σ1:Sto}
  (hcall:call f (ps.map PV.Aq0) []=some (r,σ1)) (hrf:r.flat=true) (hk:∀a' w',Sim cx a' w' (setO A o.dst r.Aq0) σ→Kept o.dst a a'→K a' w'):o.wpIn (FW ro) n P a w K Q:=by
 obtain⟨hent,hcl⟩:=hS f _ [] r σ1 (AX4 ps) hcall;refine AJI ho hcal hx hent ((hcl 0 _ w G.bare (fun b=>b<w.heap.size) (hargs.Aq0.bare hflat) (pre_bare hi)).mono ?_)
 rintro e w' ⟨v,G1,rfl,hr,ha⟩
 exact⟨v,rfl,hk _ _ ⟨_,inv_after hi ha o.dst hdst hr hrf⟩ (AwP _ _ _)⟩
theorem Av6{ps:List PV}(h:ps.all PV.flat=true):(ps.map PV.Aq0).all PV.flat=true:=by
 rw[List.all_map];rw[List.all_eq_true] at h ⊢;intro p hp;simpa [flat_disown1] using h p hp
theorem sim_c{ro:Option Nat}{n:Nat}{o:Oper}{c:Call}{K:Act→World→Prop}{Q:Exit→Act→World→Prop}(hS:Sound P call)(hi:Inv cx G a w A σ)(hkd:∀t,cx.kd t=fi.kind t)(hnt:cx.nt=fi.nt)(ho:o.op=.call c){f:FuncId}(hcal:c.callee=.value (.func f))
  {as:List AArg} (hc:Aq2 fi c.args.toList=some as) (hd:Aq7 fi o.dst=true) (hrun:runA pur call { dst:=o.dst,k:=.c f,args:=as } A σ=some (A',σ'))
  (hk:∀a' w',Sim cx a' w' A' σ'→Kept o.dst a a'→K a' w'):o.wpIn (FW ro) n P a w K Q:=by
 obtain⟨ps,rs,he,hs,hA1,hA2⟩:=runK hrun;simp only[sem] at hs
 split at hs
 ·rename_i hf;simp only[Bool.and_eq_true] at hf;obtain⟨⟨r,σ1⟩,hcall,hs⟩:=Option.bind_eq_some_iff.1 hs;dsimp only at hs
  split at hs
  ·rename_i hrf;cases hs;have hA:=A_of hA1 hA2;subst hA;refine AjP hS hi ho hcal (f:=f) (fs:=#[]) (cs:=#[]) rfl (AqV hkd hnt hd) (ps:=ps) ?_ (Av6 hf.2) hcall hrf hk
   simpa using Av5 hi hkd hc he hf.1
  ·cases hs
 ·cases hs
theorem sim_call{ro:Option Nat}{n:Nat}{o:Oper}{c:Call}{K:Act→World→Prop}{Q:Exit→Act→World→Prop}(hS:Sound P call)(hi:Inv cx G a w A σ)(hkd:∀t,cx.kd t=fi.kind t)(hnt:cx.nt=fi.nt)(ho:o.op=.call c){f:FuncId}(hcal:c.callee=.value (.func f))
  {as:List AArg} (hc:Aq2 fi c.args.toList=some as) (hd:Aq7 fi o.dst=true) (hrun:runA pur call { dst:=o.dst,k:=.w (.call f),args:=as } A σ=some (A',σ'))
  (hk:∀a' w',Sim cx a' w' A' σ'→Kept o.dst a a'→K a' w'):o.wpIn (FW ro) n P a w K Q:=by
 obtain⟨ps,rs,he,hs,hA1,hA2⟩:=runK hrun;simp only[sem,semW] at hs
 split at hs
 ·rename_i hf
  split at hs
  ·split at hs
   ·rename_i hflat;obtain⟨⟨r,σ1⟩,hcall,hs⟩:=Option.bind_eq_some_iff.1 hs;dsimp only at hs
    split at hs
    ·rename_i hrf;cases hs;have hA:=A_of hA1 hA2;subst hA;refine AjP hS hi ho hcal (f:=f) (fs:=#[]) (cs:=#[]) rfl (AqV hkd hnt hd) (ps:=ps) ?_ (Av6 hflat) hcall hrf hk
     simpa using Av5 hi hkd hc he hf
    ·cases hs
   ·cases hs
  ·obtain⟨⟨r,σ1⟩,hcall,hs⟩:=Option.map_eq_some_iff.1 hs;cases hs;have hA:=A_of hA1 hA2;subst hA;refine AJ3 hS hi ho hcal (f:=f) (fs:=#[]) (cs:=#[]) rfl (AqV hkd hnt hd) (ps:=ps) ?_ hcall hk
   simpa using Av5 hi hkd hc he hf
 ·cases hs
theorem frzL_own(ps:List PV){vs:List PV}{σ σ':Sto}(h:frzL ps σ=some (vs,σ')){G:Gh}(hi:Inv cx G a w A σ):
  ∃G',Inv cx G' a w A σ'∧G'.bl=G.bl∧(∀b x,G.I b x→G'.I b x)∧vs.length=ps.length∧∀(i:Nat) (p q:PV),ps[i]?=some p→vs[i]?=some q→∀c,Rep1 G.I G.bl w c p.own0→Rep G'.I w c q:=by
 have key:∀(ps vs:List PV) (σ σ':Sto),frzL ps σ=some (vs,σ')→frzL (ps.map PV.own0) σ=some (vs,σ'):=by
  intro ps
  induction ps with
  |nil=>intro vs σ σ' h;exact h
  |cons c cs ih=>
   intro vs σ σ' h;cases c with
   |arr id gen off len size=>
    simp only[frzL,List.map_cons,PV.own0] at h ⊢
    split at h
    ·rename_i es hes
     split at h
     ·rename_i hfl;obtain⟨⟨us,σ1⟩,h1,e⟩:=Option.map_eq_some_iff.1 h;cases e;simp only[hfl,if_true,ih _ _ _ h1,Option.map_some]
     ·cases h
    ·cases h
   |_=>
    simp only[frzL,List.map_cons,PV.own0] at h ⊢
    split at h
    ·rename_i hf;obtain⟨⟨us,σ1⟩,h1,e⟩:=Option.map_eq_some_iff.1 h;cases e
     first
      |(rw[if_pos hf,ih _ _ _ h1];rfl)
      |(rw[if_pos (show PV.flat (.slice false _ _)=true from rfl),ih _ _ _ h1];rfl)
    ·cases h
 obtain⟨G',i1,i2,i3,i4,i5⟩:=AZR _ (key ps vs σ σ' h) hi;refine⟨G',i1,i2,i3,by rw[i4,List.length_map],fun i p q hp hq c hc=>i5 i p.own0 q (by rw[List.getElem?_map,hp];rfl) hq c hc⟩
theorem sim_callz{ro:Option Nat}{n:Nat}{o:Oper}{c:Call}{d:Nat}{K:Act→World→Prop}{Q:Exit→Act→World→Prop}(hS:Sound P call)(hi:Inv cx G a w A σ)(hkd:∀t,cx.kd t=fi.kind t)(hnt:cx.nt=fi.nt)(ho:o.op=.call c){f:FuncId}(hcal:c.callee=.value (.func f))
  (hod:o.dst=some d) {as:List AArg} (hc:Aq2 fi c.args.toList=some as) (hd:Aq7 fi o.dst=true) (hrun:runA pur call { dst:=o.dst,k:=.w (.callz f),args:=as } A σ=some (A',σ'))
  (hk:∀a' w',Sim cx a' w' A' σ'→Kept o.dst a a'→K a' w'):o.wpIn (FW ro) n P a w K Q:=by
 obtain⟨ps,rs,he,hs,hA1,hA2⟩:=runK hrun;simp only[sem,semW] at hs
 split at hs
 case isFalse=>cases hs
 rename_i hf;obtain⟨⟨r,σ1⟩,hcall,hs⟩:=Option.bind_eq_some_iff.1 hs;obtain⟨⟨r',σ2⟩,hfz,hs⟩:=Option.map_eq_some_iff.1 hs;cases hs;have hA:=A_of hA1 hA2;subst hA;have hdp:=AqV hkd hnt hd;refine AJ3 hS hi ho hcal (f:=f) (fs:=#[]) (cs:=#[]) rfl hdp (ps:=ps) (by simpa using Av5 hi hkd hc he hf) hcall (fun a' w' hsim hkept=>hk a' w' ?_ hkept)
 unfold frzV at hfz;dsimp only at hfz hcall hsim
 split at hfz
 ·rename_i cs;obtain⟨⟨us,σ3⟩,h1,e⟩:=Option.map_eq_some_iff.1 hfz;cases e;obtain⟨G1,hi1⟩:=hsim;obtain⟨G',hi',hbl,hI,hlen',hrep⟩:=frzL_own cs h1 hi1;rw[hod] at hi1 hi' ⊢;obtain⟨hd1,hd2⟩:=hdp d hod;have hlen:d<A.length:=by have:=hi.room;omega
  have hg:Frm.get (setO A (some d) (PV.aggr cs).Aq0) d=some (.aggr (cs.map PV.own0)):=by
   simp only[setO,AqL,hlen,and_self,if_true];rfl
  have hsl:=((Aq9 hd2 rfl).1 (hi1.slot d _ hg)).1;obtain⟨vcs,ev,hsz,hr⟩:=hsl.aggr_inv
  have:=hi'.reset (d:=d) (p:=.agg us) ((Aq9 hd2 rfl).2 ⟨.one (.inl (by
   rw[ev];refine .agg (by rw[hsz,List.length_map,hlen']) fun i q hq=>?_
   have hil:i<cs.length:=by rw[←hlen'];exact(List.getElem?_eq_some_iff.1 hq).1
   exact hrep i _ q (List.getElem?_eq_getElem hil) hq _ (hr i _ (by rw[List.getElem?_map,List.getElem?_eq_getElem hil];rfl)))),trivial⟩)
  simp only[setO,List.set_set] at this ⊢;exact⟨G',this⟩
 ·rename_i id gen off len size
  split at hfz
  case h_2=>cases hfz
  rename_i es hes
  split at hfz
  case isFalse=>cases hfz
  rename_i hfl;cases hfz;obtain⟨G1,hi1⟩:=hsim;obtain⟨G',hi',hrep⟩:=frz_core hi1 hes hfl;rw[hod] at hi1 hi' ⊢;obtain⟨hd1,hd2⟩:=hdp d hod;have hlen:d<A.length:=by have:=hi.room;omega
  have hg:Frm.get (setO A (some d) (PV.arr id gen off len size).Aq0) d=some (.arr id gen off len size):=by
   simp only[setO,AqL,hlen,and_self,if_true];rfl
  have hsl:=((Aq9 hd2 rfl).1 (hi1.slot d _ hg)).1;have:=hi'.reset (d:=d) (p:=.slice false size es) ((Aq9 hd2 rfl).2 ⟨.one (.inl (hrep _ hsl)),trivial⟩);simp only[setO,List.set_set] at this ⊢;exact⟨G',this⟩
 ·cases hfz;exact hsim
theorem argsOk_arr{fs:Array Value}{ps:List PV}(h1:fs.size=ps.length)(hf:∀(i:Nat) (p:PV),ps[i]?=some p→Rep1 G.I G.bl w (fs.getD i undef) p):AxY G.I G.bl w fs.toList ps:=by
 refine⟨by simpa using h1,fun i p hp=>?_⟩
 have hlt:i<fs.size:=by have:=(List.getElem?_eq_some_iff.1 hp).1;omega
 exact⟨fs.getD i undef,by simp[Array.getD,hlt],.one (hf i p hp)⟩
theorem sim_calld{ro:Option Nat}{n:Nat}{o:Oper}{c:Call}{K:Act→World→Prop}{Q:Exit→Act→World→Prop}(hS:Sound P call)(hi:Inv cx G a w A σ)(hkd:∀t,cx.kd t=fi.kind t)(hnt:cx.nt=fi.nt)(ho:o.op=.call c){x:Operand}(hcal:c.callee=.value x)
  {as:List AArg} (hc:Aq2 fi (x::c.args.toList)=some as) (hd:Aq7 fi o.dst=true) (hrun:runA pur call { dst:=o.dst,k:=.w .calld,args:=as } A σ=some (A',σ'))
  (hk:∀a' w',Sim cx a' w' A' σ'→Kept o.dst a a'→K a' w'):o.wpIn (FW ro) n P a w K Q:=by
 obtain⟨ps,rs,he,hs,hA1,hA2⟩:=runK hrun;obtain⟨y,zs,rfl,hy,hz⟩:=Aq3 hc;obtain⟨p,qs,rfl,hp,hq⟩:=Aq1 he;simp only[sem] at hs;cases p with
 |func f first cap=>
  obtain⟨fs,cs,hx,h1,h2,h3,h4⟩:=(Aq5 hi hkd hy hp rfl).AvD;simp only[semW] at hs
  split at hs
  ·rename_i hf
   have hargs:AxY G.I G.bl w (fs++c.args.map a.eval++cs).toList (first++qs++cap):=by
    rw[Array.toList_append,Array.toList_append];exact((argsOk_arr h1 h3).append (Av5 hi hkd hz hq hf)).append (argsOk_arr h2 h4)
   split at hs
   ·split at hs
    ·rename_i hflat;obtain⟨⟨r,σ1⟩,hcall,hs⟩:=Option.bind_eq_some_iff.1 hs;dsimp only at hs
     split at hs
     ·rename_i hrf;cases hs;have hA:=A_of hA1 hA2;subst hA;exact AjP hS hi ho hcal hx (AqV hkd hnt hd) hargs hflat hcall hrf hk
     ·cases hs
    ·cases hs
   ·obtain⟨⟨r,σ1⟩,hcall,hs⟩:=Option.map_eq_some_iff.1 hs;cases hs;have hA:=A_of hA1 hA2;subst hA;exact AJ3 hS hi ho hcal hx (AqV hkd hnt hd) hargs hcall hk
  ·cases hs
 |_=>simp[semW] at hs
end
end Go.Abs
