/- A part of the proof: A13 A14 A15 A16 A17 A18 A19 A20 A21 A22. -/
import Derived.Test.YtngalibidopjlaaGreatDoorKab
import Derived.Laws.CopyRow
import Derived.Laws.Append
import Derived.Deep.AppendSrc
import Derived.Deep.Upon

set_option linter.unusedVariables false
set_option linter.unusedSimpArgs false
namespace Go.Abs
open Go.RowKit
def Gh.newB(G:Gh)(n:Nat)(J:Option Nat→Prop)(tag:Option Tag):Gh:=
 ⟨fun b x=>G.I b x∨(b=n∧J x),fun b=>if b=n then tag else G.ω b,G.bl⟩
section
variable{P:Program}{pur:FuncId→Bool}{call:Caller}{fi:FI}{cx:Cx}{G:Gh}{a:Act}{w:World}{A A':Frm}{σ σ':Sto}
theorem heap_alloc_old'(w:World)(o:Obj)(i:Nat)(h:i<w.heap.size):(w.alloc o).heap[i]?=w.heap[i]?:=by
 show(w.heap.push o)[i]?=_;rw[Array.getElem?_push,if_neg (by omega)]
theorem heap_alloc_new'(w:World)(o:Obj):(w.alloc o).heap[w.heap.size]?=some o:=by
 show(w.heap.push o)[w.heap.size]?=_;simp
theorem cell_of_heap{w w':World}{b o:Nat}(h:w'.heap[b]?=w.heap[b]?):w'.cell? ⟨b,o,none⟩=w.cell? ⟨b,o,none⟩:=by
 simp only[World.cell?,h]
theorem AXO(w:World)(cs:Array Value)(t:TypeId)(fz:Nat×Nat)(j:Nat):(w.alloc (.cells cs t fz)).cell? ⟨w.heap.size,j,none⟩=cs[j]?:=by
 simp only[World.cell?,heap_alloc_new'];rfl
theorem AxD(X:Tag→Prop)(hb:Base cx G w)(o:Obj)(J:Option Nat→Prop)(tag:Option Tag):Ext X G (G.newB w.heap.size J tag) w (w.alloc o):=by
 refine⟨fun b x h=>.inl h,⟨fun b x h=>cell_of_heap (heap_alloc_old' _ _ _ (hb.lt _ _ h)),fun b h=>heap_alloc_old' _ _ _ (hb.lt _ _ h)⟩,Bl.le_refl _,fun _ _ _ _=>rfl,fun b tg h _=>?_⟩
 have hlt:=(hb.own b tg h).1;have hne:b≠w.heap.size:=by omega
 refine⟨by simp[Gh.newB,hne,h],heap_alloc_old' _ _ _ hlt,fun x hx=>?_⟩
 rcases hx with hx | ⟨rfl,_⟩
 ·exact hx
 ·exact absurd rfl hne
theorem Ax0(hb:Base cx G w)(o:Obj)(J:Option Nat→Prop)(tag:Option Tag):Base cx (G.newB w.heap.size J tag) (w.alloc o):=by
 have hsz:(w.alloc o).heap.size=w.heap.size+1:=by show(w.heap.push o).size=_;simp
 refine⟨fun b h=>?_,?_,fun b x h=>.inl (hb.sub b x h),fun b x h=>?_,fun b x h=>?_,fun b tg h=>?_,hb.Klt,by rw[hsz];have:=hb.grow;omega,hb.bl,hb.os,hb.tape,hb.output⟩
 ·have:=hb.Klt b h;have:=hb.grow;rw[heap_alloc_old' _ _ _ (by omega)];exact hb.keep b h
 ·refine hb.same.trans (I':=G.I) ⟨fun b x h=>cell_of_heap (heap_alloc_old' _ _ _ (hb.lt _ _ h)),fun b h=>heap_alloc_old' _ _ _ (hb.lt _ _ h)⟩ hb.sub
 ·rcases h with h | ⟨rfl,_⟩
  ·exact hb.new b x h
  ·refine .inr fun hk=>?_
   have:=hb.Klt _ hk;have:=hb.grow;omega
 ·rw[hsz];rcases h with h | ⟨rfl,_⟩
  ·have:=hb.lt b x h;omega
  ·omega
 ·rw[hsz];simp only[Gh.newB] at h
  split at h
  ·rename_i hbn;subst hbn;refine⟨by omega,fun hk=>?_⟩
   have:=hb.Klt _ hk;have:=hb.grow;omega
  ·have:=hb.own b tg h;exact⟨by omega,this.2⟩
theorem AkF(X:Tag→Prop):Ext X G G w w.drew:=⟨fun _ _ h=>h,⟨fun _ _ _=>rfl,fun _ _=>rfl⟩,Bl.le_refl _,fun _ _ _ _=>rfl,fun _ _ h _=>⟨h,rfl,fun _ h=>h⟩⟩
theorem AxW(hb:Base cx G w):Base cx G w.drew:=⟨hb.keep,⟨hb.same.cell,hb.same.blk⟩,hb.sub,hb.new,hb.lt,hb.own,hb.Klt,hb.grow,hb.bl,hb.os,hb.tape,hb.output⟩
theorem Ext.trans{X:Tag→Prop}{G1 G2 G3:Gh}{w1 w2 w3:World}(h:Ext X G1 G2 w1 w2)(k:Ext X G2 G3 w2 w3):Ext X G1 G3 w1 w3:=by
 refine⟨fun b x h'=>k.I _ _ (h.I _ _ h'),h.same.trans k.same h.I,h.bl.trans k.bl,fun id hid hX g=>(k.ab id (Nat.lt_of_lt_of_le hid h.bl.1.length_le) hX g).trans (h.ab id hid hX g),fun b tg ht hX=>?_⟩
 obtain⟨a1,a2,a3⟩:=h.fix b tg ht hX;obtain⟨b1,b2,b3⟩:=k.fix b tg a1 hX;exact⟨b1,b2.trans a2,fun x hx=>a3 x (b3 x hx)⟩
theorem givesW(hi:Inv cx G a w A σ){o:Oper}{k:PK}{as:List AArg}(hdst:∀d,o.dst=some d→d<cx.nt∧(cx.kd d).val=true)
  (hrun:runA pur call { dst:=o.dst,k:=.p k,args:=as } A σ=some (A',σ'))
  (hsem:∀vs rs,Aq8 A as=some vs→semP k vs=some rs→∃p v G' w',rs=[some p]∧p.free=true∧(execOp a.eval o).run P w=.ok (.value v) w'∧
   Ext (fun _=>False) G G' w w'∧Base cx G' w'∧G'.bl=G.bl∧RepT G'.I G'.bl w' v p∧∀d,o.dst=some d→OwnOk G' w' (.slot d none) v p):Gives P cx o a w A' σ':=by
 obtain⟨vs,rs,h1,h2,rfl,h3⟩:=run1 hrun;obtain⟨p,v,G',w',rfl,hf,hr,he,hb,hbl,hrep,how⟩:=hsem vs rs h1 h2;rw[h3 p rfl];exact .inl ⟨v,w',hr,G',hi.put1 he hb hbl o.dst hdst hf hrep how⟩
theorem sim_bx(hi:Inv cx G a w A σ)(hkd:∀t,cx.kd t=fi.kind t){o:Oper}{t:TypeId}{x:Operand}(ho:o.op=.box t x)
  (hdst:∀d,o.dst=some d→d<cx.nt∧(cx.kd d).val=true)
  {as:List AArg} (hc:Aq2 fi [x]=some as) (hrun:runA pur call { dst:=o.dst,k:=.p .bx,args:=as } A σ=some (A',σ')):Gives P cx o a w A' σ':=by
 refine givesW hi hdst hrun fun vs rs he hs=>?_
 obtain⟨y,zs,rfl,hy,hz⟩:=Aq3 hc;cases hz;obtain⟨p,qs,rfl,hp,hq⟩:=Aq1 he;cases hq;simp only[semP] at hs
 split at hs
 ·rename_i hf;cases hs;have hrep:=((Aq5 hi hkd hy hp (AzS hf)).flat hf).Aq0;obtain⟨hsz,hcell⟩:=AxS hrep
  let J:Option Nat→Prop:=fun x=>∃o,x=some o
  refine⟨_,.pointer (some ⟨w.heap.size,0,none⟩),G.newB w.heap.size J none,w.alloc (.cells (a.eval x).cells t),rfl,rfl,?_,AxD _ hi.base _ _ _,Ax0 hi.base _ _ _,rfl,?_,fun _ _=>trivial⟩
  ·simp only[execOp,ho,Instr.box,newVar,newRow];rfl
  ·have hext:=AxD (fun _=>False) hi.base (.cells (a.eval x).cells t) J none
   refine .one (.inl (.vptr (fun j=>(a.eval x).cells.getD j undef) (fun j q hq=>.inr ⟨rfl,⟨_,rfl⟩⟩) (fun j q hq=>?_) (fun j q hq=>(hcell j q hq).mono hext.I hext.same)))
   rw[Nat.zero_add,AXO];have hlt:j<(a.eval x).cells.size:=by have:=(List.getElem?_eq_some_iff.1 hq).1;omega
   simp[Array.getD,hlt]
 ·cases hs
theorem AQC(w:World)(cs:Array Value)(t:TypeId):∃fz,(markStringish ⟨w.heap.size,0,none⟩).run P (w.alloc (.cells cs t))=.ok () (w.alloc (.cells cs t fz)):=by
 refine⟨(cs.size,cs.size+1),?_⟩
 have hshape:(w.alloc (.cells cs t)).shape? w.heap.size=some (t,cs.size):=by
  simp only[World.shape?,heap_alloc_new']
 simp only[markStringish,Sem.run_bind,run_shape,hshape,Result.andThen_ok,run_freeze];congr 1;simp only[World.freeze,World.alloc];rw[if_neg (by omega)]
 congr 1;apply Array.ext_getElem?;intro i;rw[Array.getElem?_modify,Array.getElem?_push,Array.getElem?_push]
 by_cases h:w.heap.size=i
 ·subst h;simp
 ·have:¬i=w.heap.size:=fun e=>h e.symm
  simp[h,this]
theorem sim_cvb(hi:Inv cx G a w A σ)(hkd:∀t,cx.kd t=fi.kind t)(hnt:cx.nt=fi.nt){o:Oper}{s t e:TypeId}{x:Operand}(ho:o.op=.convert s t x)
  (hs':P.underlying s=some .string) (ht:P.underlying t=some (.slice e)) (he':P.underlying e=some (.int .u8))
  {as:List AArg} (hc:Aq2 fi [x]=some as) (hd:Aq7 fi o.dst=true) (hrun:runA pur call { dst:=o.dst,k:=.p .cvb,args:=as } A σ=some (A',σ')):Gives P cx o a w A' σ':=by
 refine givesW hi (AqV hkd hnt hd) hrun fun vs rs he hs=>?_
 obtain⟨y,zs,rfl,hy,hz⟩:=Aq3 hc;cases hz;obtain⟨p,qs,rfl,hp,hq⟩:=Aq1 he;cases hq;cases p with
 |str l=>
  obtain⟨b,ev,rfl⟩:=(Aq5 hi hkd hy hp rfl).Ax2;simp only[semP] at hs;cases hs
  let cap:=Question.cut (.appendCap b.size 0 e) (w.tape w.drawn (.appendCap b.size 0 e))
  let cs:Array Value:=(b.data.map fun c=>Value.int .u8 c.toNat)++Array.replicate (cap - b.size) (.int .u8 0)
  obtain⟨fz,hm⟩:=AQC (P:=P) w.drew cs e
  let J:Option Nat→Prop:=fun x=>∃o,x=some o
  have hext:=(AkF (G:=G) (w:=w) (fun _=>False)).trans (AxD (fun _=>False) (AxW hi.base) (.cells cs e fz) J none)
  have hsize:b.size=b.data.size:=rfl;refine⟨_,.slice (some ⟨w.heap.size,0,none⟩) b.size cap,G.newB w.heap.size J none,w.drew.alloc (.cells cs e fz),rfl,rfl,?_,hext,Ax0 (AxW hi.base) _ _ _,rfl,?_,fun _ _=>trivial⟩
  ·simp only[execOp,ho,convert,underlying,Sem.run_bind,run_program,hs',ht,Result.andThen_ok,Sem.run_pure,ev,he',Conv.stringToBytes,run_choose,Question.forced,newRow,run_newObj];have:(markStringish ⟨w.heap.size,0,none⟩).run P (w.drew.alloc (.cells cs e))=.ok () (w.drew.alloc (.cells cs e fz)):=hm;simp only[Bool.false_eq_true,if_false];show(Result.andThen (Result.andThen ((markStringish ⟨w.heap.size,0,none⟩).run P (w.drew.alloc (.cells cs e))) _) _)=_;rw[this];rfl
  ·refine .one (.inl (.slice (fun i _=>cs.getD i undef) (by rw[List.length_map];exact Lib.size_eq b) ?_ (fun _=>rfl) ?_ ?_ ?_ ?_))
   ·show b.size≤cap;simp only[cap,Question.cut];omega
   ·intro i el hel;rw[List.getElem?_map] at hel
    obtain⟨c,_,rfl⟩:=Option.map_eq_some_iff.1 hel;rfl
   ·intro i el j q hel hq;exact .inr ⟨rfl,⟨_,rfl⟩⟩
   all_goals (
    intro i el j q hel hq;rw[List.getElem?_map] at hel
    obtain⟨c,hc',rfl⟩:=Option.map_eq_some_iff.1 hel;have hlt:i<b.data.size:=by have:=(List.getElem?_eq_some_iff.1 hc').1;simpa using this
    have hj:j=0:=by
     cases j with
     |zero=>rfl
     |succ j=>simp[PV.cells] at hq
    subst hj;simp[PV.cells] at hq;subst hq
    have hcs:cs[i]?=some (Value.int .u8 c.toNat):=by
     simp only[cs];rw[Array.getElem?_append_left (by simpa using hlt),Array.getElem?_map]
     rw[Array.getElem?_toList] at hc'
     rw[hc'];rfl)
   ·have:=AXO w.drew cs e fz i;rw[show(0+i * 1+0)=i from by omega]
    rw[show cs.getD i undef=Value.int .u8 c.toNat from by rw[Array.getD_eq_getD_getElem?,hcs];rfl,←hcs]
    exact this
   ·rw[show cs.getD i undef=Value.int .u8 c.toNat from by rw[Array.getD_eq_getD_getElem?,hcs];rfl]
    exact .int _ _
 |_=>simp[semP] at hs
end
end Go.Abs

namespace Go.Abs
open Go.RowKit
section
variable{P:Program}{pur:FuncId→Bool}{call:Caller}{fi:FI}{cx:Cx}{G:Gh}{a:Act}{w:World}{A A':Frm}{σ σ':Sto}
def flatV(vs:List Value):List Value:=vs.flatMap fun v=>v.cells.toList
theorem flat_get{size:Nat}:∀(vs:List Value) (i j:Nat) (v:Value),(∀v∈vs,v.cells.size=size)→vs[i]?=some v→j<size→(flatV vs)[i * size+j]?=v.cells[j]?
 |[],i,j,v,_,h,_=>by simp at h
 |u::vs,i,j,v,hall,h,hj=>by
  have hu:=hall u (List.mem_cons_self ..);simp only[flatV,List.flatMap_cons];cases i with
  |zero=>
   simp at h;subst h;rw[Nat.zero_mul,Nat.zero_add,List.getElem?_append_left (by simp;omega),Array.getElem?_toList]
  |succ i=>
   rw[List.getElem?_append_right (by simp[hu];rw[Nat.succ_mul];omega)]
   have:=flat_get vs i j v (fun v hv=>hall v (List.mem_cons_of_mem _ hv)) (by simpa using h) hj
   rw[←this];congr 1;simp[hu,Nat.succ_mul];omega
theorem flat_len{size:Nat}:∀(vs:List Value),(∀v∈vs,v.cells.size=size)→(flatV vs).length=vs.length * size
 |[],_=>by simp[flatV]
 |u::vs,h=>by
  have:=flat_len vs (fun v hv=>h v (List.mem_cons_of_mem _ hv))
  simp only[flatV,List.flatMap_cons,List.length_append,List.length_cons] at this ⊢;rw[this];simp[h u (List.mem_cons_self ..),Nat.succ_mul];omega
theorem fill_slice{size:Nat}(f:Operand→Value):∀(parts:List (Nat×Operand)) (k:Nat) (pre rest:List Value) (cells:Array Value),AZQ k parts=true→pre.length=k * size→
  cells.toList=pre++rest→rest.length=parts.length * size→(∀x∈parts,(f x.2).cells.size=size)→
  ∃cells',Instr.fill (fun i=>some (i * size,size)) cells (parts.map fun x=>(x.1,f x.2))=some cells'∧cells'.toList=pre++flatV (parts.map fun x=>f x.2)
 |[],k,pre,rest,cells,_,_,hc,hl,_=>by
  have:rest=[]:=List.length_eq_zero_iff.1 (by simpa using hl)
  exact⟨cells,rfl,by rw[hc,this];simp[flatV]⟩
 |(i,x)::parts,k,pre,rest,cells,ho,hp,hc,hl,hall=>by
  simp only[AZQ,Bool.and_eq_true,beq_iff_eq] at ho;obtain⟨rfl,ho⟩:=ho;have hx:=hall (i,x) (List.mem_cons_self ..);dsimp only at hx
  have hsz:cells.size=i * size+(parts.length+1) * size:=by
   have:=congrArg List.length hc;simp only[Array.length_toList,List.length_append,hp,hl,List.length_cons] at this;exact this
  rw[Nat.succ_mul] at hsz;have hrl:rest.length=parts.length * size+size:=by simpa [Nat.succ_mul] using hl
  have hnew:((f x).cells.zipIdx.foldl (fun(cs:Array Value) (x:Value×Nat)=>cs.setIfInBounds (i * size+x.2) x.1) cells).toList=(pre++(f x).cells.toList)++rest.drop size:=by
   rw[fold_cells _ _ _ (by rw[hx];omega),hc,hx]
   have e1:(pre++rest).take (i * size)=pre:=by rw[←hp];simp
   have e2:(pre++rest).drop (i * size+size)=rest.drop size:=by
    rw[←hp,List.drop_append,List.drop_eq_nil_of_le (by omega)];simp
   simp only[e1,e2]
  obtain⟨cells',h1,h2⟩:=fill_slice f parts (i+1) (pre++(f x).cells.toList) (rest.drop size) _ ho (by simp[hp,hx,Nat.succ_mul]) hnew (by rw[List.length_drop];omega) (fun y hy=>hall y (List.mem_cons_of_mem _ hy))
  refine⟨cells',?_,by rw[h2];simp[flatV]⟩
  simp only[List.map_cons,Instr.fill];rw[if_neg (by simp only[hx,Bool.or_eq_true,decide_eq_true_eq,ne_eq,not_true_eq_false,decide_false,Bool.false_eq_true,false_or];omega)]
  exact h1
theorem sim_bsl(hi:Inv cx G a w A σ)(hkd:∀t,cx.kd t=fi.kind t)(hnt:cx.nt=fi.nt){o:Oper}{t e:TypeId}{n:Nat}{ps:Array (Nat×Operand)}(ho:o.op=.buildSlice t n ps)
  (ht:P.underlying t=some (.slice e)) {size:Nat} {ag:Bool} (hsz:AqG P e=some (size,ag)) (hord:AZQ 0 ps.toList=true) (hn:ps.size=n) (hn':n≤1000) (hs0:0<size) (hs1:size≤100)
  (hz:(P.info? e).any (·.zero.isSome)=true)
  {as:List AArg} (hc:Aq2 fi (ps.toList.map (·.2))=some as) (hd:Aq7 fi o.dst=true) (hrun:runA pur call { dst:=o.dst,k:=.p (.bsl size),args:=as } A σ=some (A',σ')):Gives P cx o a w A' σ':=by
 refine givesW hi (AqV hkd hnt hd) hrun fun vs rs he hs=>?_
 simp only[semP] at hs
 split at hs
 case isFalse=>cases hs
 rename_i hall;cases hs;rw[List.all_eq_true] at hall
 have hall':∀p∈vs,p.cells.length=size∧p.flat=true:=fun p hp=>by
  have:=hall p hp;simp only[Bool.and_eq_true,beq_iff_eq] at this;exact this
 obtain⟨hl,hrep⟩:=args_rep hi hkd hc he (fun p hp=>AzS (hall' p hp).2)
 have hl':ps.size=vs.length:=by simpa using hl
 have hpart:∀(i:Nat) (x:Nat×Operand) (p:PV),ps.toList[i]?=some x→vs[i]?=some p→Rep G.I w (a.eval x.2) p.Aq0:=fun i x p hx hp=>
  ((hrep i x.2 p (by rw[List.getElem?_map,hx];rfl) hp).flat (hall' p (List.mem_of_getElem? hp)).2).Aq0
 have hsize:∀x∈ps.toList,(a.eval x.2).cells.size=size:=by
  intro x hx;obtain⟨i,hix⟩:=List.mem_iff_getElem?.1 hx;have hlt:i<vs.length:=by have:=(List.getElem?_eq_some_iff.1 hix).1;simp at this;omega
  have hp:=List.getElem?_eq_getElem hlt
  have:=(AxS (hpart i x _ hix hp)).1;rw[this,AqP];exact(hall' _ (List.getElem_mem hlt)).1
 obtain⟨it,hit,hzs⟩:∃it,P.info? e=some it∧it.zero.isSome=true:=by
  cases h:P.info? e with
  |none=>rw[h] at hz;simp at hz
  |some it=>rw[h] at hz;exact⟨it,rfl,by simpa using hz⟩
 obtain⟨zv,hzv⟩:=Option.isSome_iff_exists.1 hzs
 let zero:Array Value:=if n * size=0 then #[] else zv.cells
 let cells0:Array Value:=(Array.range (n * size)).map (zero[· % zero.size]!)
 obtain⟨cells,hfill,hcells⟩:=fill_slice a.eval ps.toList 0 [] cells0.toList cells0 hord (by simp) (by simp) (by simp[cells0,hn]) hsize
 simp only[List.nil_append] at hcells
 let J:Option Nat→Prop:=fun x=>∃o,x=some o∧o<n * size
 let tag:Option Tag:=o.dst.map fun d=>.slot d none
 have hext:=AxD (fun _=>False) hi.base (.cells cells e) J tag
 have hlenc:cells.size=n * size:=by
  have:=congrArg List.length hcells;rw[flat_len _ (by intro v hv;obtain⟨x,hx,rfl⟩:=List.mem_map.1 hv;exact hsize x hx)] at this
  simpa [hn] using this
 refine⟨_,.slice (some ⟨w.heap.size,0,none⟩) n n,G.newB w.heap.size J tag,w.alloc (.cells cells e),rfl,rfl,?_,hext,Ax0 hi.base _ _ _,rfl,?_,?_⟩
 ·have h24:¬(n * size>2 ^ 24):=by
   have:n * size≤1000 * 100:=Nat.mul_le_mul hn' hs1;omega
  have hf':Instr.fill (fun i=>some (i * size,size)) cells0 (ps.map fun x=>(x.1,a.eval x.2)).toList=some cells:=by
   rw[Array.toList_map];exact hfill
  simp only[cells0] at hf';have hzr:(zeroValue e).run P w=.ok zv w:=by simp[zeroValue,typeInfo,hit,hzv]
  by_cases h0:n * size=0
  ·have hz0:zero=#[]:=by simp[zero,h0]
   rw[hz0] at hf';simp only[execOp,ho,Instr.buildSlice,Sem.run_bind,underlying,run_program,ht,Result.andThen_ok,Sem.run_pure,run_sizeOf hsz,if_neg h24,if_pos h0,newRow,run_newObj];rw[hf'];rfl
  ·have hz0:zero=zv.cells:=by simp only[zero,if_neg h0]
   rw[hz0] at hf';simp only[execOp,ho,Instr.buildSlice,Sem.run_bind,underlying,run_program,ht,Result.andThen_ok,Sem.run_pure,run_sizeOf hsz,if_neg h24,if_neg h0,hzr,newRow,run_newObj];rw[hf'];rfl
 ·have hlen:n=(vs.map PV.Aq0).length:=by simp;omega
  have key:∀(i:Nat) (el:PV) (j:Nat) (q:PV),(vs.map PV.Aq0)[i]?=some el→el.cells[j]?=some q→∃v,Rep G.I w v el∧j<size∧i<n∧v.cells.size=size∧cells[i * size+j]?=v.cells[j]?:=by
   intro i el j q hel hq;rw[List.getElem?_map] at hel
   obtain⟨p,hp,rfl⟩:=Option.map_eq_some_iff.1 hel;have hlt:i<ps.size:=by have:=(List.getElem?_eq_some_iff.1 hp).1;omega
   have hx:ps.toList[i]?=some ps[i]:=by rw[Array.getElem?_toList];exact Array.getElem?_eq_getElem hlt
   have hr:=hpart i _ p hx hp
   have hjl:j<size:=by
    have:=(List.getElem?_eq_some_iff.1 hq).1
    rw[AqP,(hall' p (List.mem_of_getElem? hp)).1] at this;exact this
   refine⟨_,hr,hjl,by omega,hsize _ (List.mem_of_getElem? hx),?_⟩
   rw[←Array.getElem?_toList,hcells]
   exact flat_get _ i j _ (by intro v hv;obtain⟨x,hx,rfl⟩:=List.mem_map.1 hv;exact hsize x hx) (by rw[List.getElem?_map,hx];rfl) hjl
  refine .one (.inl (.slice (fun i j=>cells.getD (i * size+j) undef) hlen (Nat.le_refl _) (fun _=>rfl) ?_ ?_ ?_ ?_))
  ·intro i el hel;rw[List.getElem?_map] at hel
   obtain⟨p,hp,rfl⟩:=Option.map_eq_some_iff.1 hel;rw[AqP];exact(hall' p (List.mem_of_getElem? hp)).1
  ·intro i el j q hel hq;obtain⟨v,_,hj,hin,_,_⟩:=key i el j q hel hq;refine .inr ⟨rfl,_,rfl,?_⟩
   have:(i+1) * size≤n * size:=Nat.mul_le_mul_right _ (by omega)
   rw[Nat.succ_mul] at this;show 0+i * size+j<n * size;omega
  ·intro i el j q hel hq;obtain⟨v,hr,hj,hin,hvs,hce⟩:=key i el j q hel hq;show(w.alloc (.cells cells e)).cell? ⟨w.heap.size,0+i * size+j,none⟩=_;rw[Nat.zero_add,AXO,hce,Array.getD_eq_getD_getElem?,hce];rw[Array.getElem?_eq_getElem (by omega)];rfl
  ·intro i el j q hel hq;obtain⟨v,hr,hj,hin,hvs,hce⟩:=key i el j q hel hq;rw[Array.getD_eq_getD_getElem?,hce];have:=(AxS hr).2 j q hq;rw[Array.getD_eq_getD_getElem?] at this;exact this.mono hext.I hext.same
 ·intro d hd';have hlen:n=(vs.map PV.Aq0).length:=by simp;omega
  show TailOk _ _ _ _ _ _;refine⟨w.heap.size,0,n,cells,e,by rw[←hlen],by simp[Gh.newB,tag,hd'],?_,?_,heap_alloc_new' _ _,by rw[hlenc];omega,hs0,by omega⟩
  ·rintro(h | ⟨_,o,h,_⟩)
   ·have:=hi.base.lt _ _ h;omega
   ·cases h
  ·intro o' ho' h;rcases h with h | ⟨_,o'',h,hlt⟩
   ·have:=hi.base.lt _ _ h;omega
   ·cases h;rw[←hlen] at ho';omega
end
end Go.Abs

namespace Go.Abs
open Go.RowKit
def Gh.retag(G:Gh)(b:Nat)(tag:Tag):Gh:=⟨G.I,fun b'=>if b'=b then some tag else G.ω b',G.bl⟩
section
variable{P:Program}{pur:FuncId→Bool}{call:Caller}{fi:FI}{cx:Cx}{G:Gh}{a:Act}{w:World}{A A':Frm}{σ σ':Sto}
theorem base_retag(hb:Base cx G w){b:Nat}{t0 tag:Tag}(h:G.ω b=some t0):Base cx (G.retag b tag) w:=by
 refine⟨hb.keep,hb.same,hb.sub,hb.new,hb.lt,fun b' tg h'=>?_,hb.Klt,hb.grow,hb.bl,hb.os,hb.tape,hb.output⟩
 simp only[Gh.retag] at h'
 split at h'
 ·rename_i e;subst e;exact hb.own _ _ h
 ·exact hb.own _ _ h'
theorem ext_retag{X:Tag→Prop}{b:Nat}{t0 tag:Tag}(h:G.ω b=some t0)(hX:X t0):Ext X G (G.retag b tag) w w:=by
 refine⟨fun _ _ h=>h,Same.refl _ _,Bl.le_refl _,fun _ _ _ _=>rfl,fun b' tg h' hn=>⟨?_,rfl,fun _ h=>h⟩⟩
 have:b'≠b:=by
  intro e;subst e;rw[h] at h';cases h';exact hn hX
 simp[Gh.retag,this,h']
theorem run2{d s:Nat}{k:PK}{as:List AArg}(h:runA pur call { dst:=some d,k:=.p k,args:=as,ex:=[s] } A σ=some (A',σ')):
  ∃vs rs,Aq8 A as=some vs∧semP k vs=some rs∧σ'=σ∧∀p q,rs=[p,q]→A'=(A.set d p).set s q:=by
 unfold runA at h;dsimp only at h
 split at h
 ·rename_i vs hvs;simp only[sem] at h
  split at h
  ·rename_i rs σ₁ hs;obtain⟨rs',hrs,e⟩:=Option.map_eq_some_iff.1 hs;cases e;refine⟨vs,rs,hvs,hrs,?_,?_⟩
   ·split at h
    ·cases h;rfl
    ·split at h<;>cases h;rfl
   ·rintro p q rfl
    simp[AOp.wr,AqO] at h;rw[←h.1]
  ·cases h
 ·cases h
theorem Inv.put2{G':Gh}{w':World}(hi:Inv cx G a w A σ){d s:Nat}(hd:d<cx.nt∧(cx.kd d).val=true)(hs:s<cx.nt∧(cx.kd s).val=true)
  (he:Ext (fun tg=>tg=.slot s none∨tg=.slot d none) G G' w w') (hb:Base cx G' w') (hbl:G'.bl=G.bl) {v:Value} {p q:PV} (hfp:p.free=true) (hfq:q.free=true)
  (hp:RepT G'.I G'.bl w' v p) (ho:d≠s→OwnOk G' w' (.slot d none) v p) (hq:RepT G'.I G'.bl w' (at' (a.put (some d) v) s) q) (hoq:∀tag c,OwnOk G' w' tag c q) :
  Inv cx G' (a.put (some d) v) w' ((A.set d (some p)).set s (some q)) σ:=by
 have hval:∀m,(cx.kd m).val=false→m≠d∧m≠s:=fun m hm=>by
  refine⟨fun e=>?_,fun e=>?_⟩
  ·rw[e,hd.2] at hm;cases hm
  ·rw[e,hs.2] at hm;cases hm
 refine hi.step _ (some d) v he hb (by simp) ?_ ?_ (by rw[hbl];exact hi.len) (by rw[hbl];exact hi.abl)
 ·intro t r hr;rw[AqL] at hr
  split at hr
  ·rename_i hc;cases hr;rw[hc.1,Aq9 hs.2 hfq];exact .inr ⟨hq,hoq _ _⟩
  ·rename_i hc1;have hts:t≠s:=fun e=>hc1 ⟨e,by simp;have:=hi.room;omega⟩
   rw[AqL] at hr
   split at hr
   ·rename_i hc;cases hr;rw[hc.1,Aq9 hd.2 hfp,AxH _ _ _ (by rw[hi.size];exact hd.1)]
    exact .inr ⟨hp,ho (by rw[←hc.1];exact hts)⟩
   ·rename_i hc2;have htd:t≠d:=fun e=>hc2 ⟨e,by have:=hi.room;omega⟩
    refine .inl ⟨hr,fun e=>htd (Option.some.inj e).symm,fun j h=>?_,fun d' off e hbx=>?_,fun m hm=>?_⟩
    ·rcases h with h | h<;>cases h
     ·exact hts rfl
     ·exact htd rfl
    ·have:=hval d' (by rw[hbx];rfl)
     exact fun e'=>this.1 (Option.some.inj e').symm
    ·obtain⟨keys,hk⟩:=cx.ents t m hm;have:=hval m (by rw[hk];rfl)
     refine⟨fun e'=>this.1 (Option.some.inj e').symm,?_⟩
     rintro(h | h)<;>cases h
     ·exact this.2 rfl
     ·exact this.1 rfl
 ·intro id cs hc;exact .inl ⟨hc,fun j h=>by rcases h with h | h<;>cases h⟩
theorem AxN(hkd:∀t,cx.kd t=fi.kind t)(hnt:cx.nt=fi.nt){t:Nat}(h:AqK fi t=true):t<cx.nt∧(cx.kd t).val=true:=
 AqV hkd hnt (d:=some t) h t rfl
theorem Aw5(hi:Inv cx G a w A σ){t:Nat}(hk:(cx.kd t).val=true){p:PV}(he:Aq8 A [.slot t]=some [p])(hf:p.free=true):
  RepT G.I G.bl w (at' a t) p∧OwnOk G w (.slot t none) (at' a t) p:=by
 simp only[Aq8] at he
 split at he
 ·rename_i v vs hg hv;cases hv;cases he;exact(Aq9 hk hf).1 (hi.slot t _ hg)
 ·cases he
theorem own_move(hb:Base cx G w){s d:Nat}{v:Value}{p:PV}(ho:OwnOk G w (.slot s none) v p):
  ∃G',G'.I=G.I∧G'.bl=G.bl∧Ext (fun tg=>tg=.slot s none∨tg=.slot d none) G G' w w∧Base cx G' w∧OwnOk G' w (.slot d none) v p:=by
 by_cases h:∃sz es,p=.slice true sz es
 ·obtain⟨sz,es,rfl⟩:=h;obtain⟨b,off,cap,cs,elem,rfl,h1,h2,h3,h4,h5,h6,h7⟩:=ho;refine⟨G.retag b (.slot d none),rfl,rfl,ext_retag h1 (.inl rfl),base_retag hb h1,?_⟩
  exact⟨b,off,cap,cs,elem,rfl,by simp[Gh.retag],h2,h3,h4,h5,h6,h7⟩
 ·exact⟨G,rfl,rfl,Ext.refl _ _ _,hb,AwL (fun sz es e=>h ⟨sz,es,e⟩)⟩
theorem sim_mvo(hi:Inv cx G a w A σ)(hkd:∀t,cx.kd t=fi.kind t)(hnt:cx.nt=fi.nt){o:Oper}{s d:Nat}(ho:o.op=.move (.tmp s)∨o.op=.assign (.tmp s))(hod:o.dst=some d)
  {as:List AArg} (hc:Aq2 fi [.tmp s]=some as) (hd:AqK fi d=true) (hs:AqK fi s=true)
  (hrun:runA pur call { dst:=some d,k:=.p .mvo,args:=as,ex:=[s] } A σ=some (A',σ')):Gives P cx o a w A' σ':=by
 obtain⟨vs,rs,he,hsem,rfl,hA⟩:=run2 hrun;obtain⟨y,zs,rfl,hy,hz⟩:=Aq3 hc;cases hz;obtain⟨p,qs,rfl,hp,hq⟩:=Aq1 he;cases hq;simp only[semP] at hsem
 split at hsem
 ·rename_i hf;cases hsem;rw[hA _ _ rfl];have hsv:=AxN hkd hnt hs;have hdv:=AxN hkd hnt hd
  have hyy:y=.slot s:=by
   simp only[AxQ] at hy
   split at hy<;>first | (split at hy<;>first | (cases hy;rfl) | cases hy) | cases hy
  subst hyy;obtain⟨hrep,how⟩:=Aw5 hi hsv.2 hp hf;obtain⟨G',e1,e2,hext,hbase,how'⟩:=own_move (d:=d) hi.base how
  have hat:at' (a.put (some d) (at' a s)) s=at' a s:=by
   by_cases h:d=s
   ·subst h;exact AxH _ _ _ (by rw[hi.size];exact hdv.1)
   ·exact AxM _ _ _ _ (fun e=>h (Option.some.inj e))
  refine .inl ⟨at' a s,w,?_,G',?_⟩
  ·rcases ho with ho | ho<;>simp only[execOp,ho]<;>rfl
  ·rw[hod];exact hi.put2 hdv hsv hext hbase e2 hf (by rw[AqH];exact hf) (by rw[e1,e2];exact hrep) (fun _=>how') (by rw[hat,e1,e2];exact hrep.Aq0) (fun _ _=>AqA p)
 ·cases hsem
end
end Go.Abs

namespace Go.Abs
open Go.RowKit
section
variable{P:Program}{pur:FuncId→Bool}{call:Caller}{fi:FI}{cx:Cx}{G:Gh}{a:Act}{w:World}{A A':Frm}{σ σ':Sto}
theorem one_rep{I:Imm}{c:Value}{p:PV}(h:Rep I w c p)(hp:p.one=true):c.oneCell'=true:=by
 cases h<;>first | rfl | simp[PV.one] at hp
def RowOk(I:Imm)(w:World)(size:Nat)(cs:List Value)(es:List PV):Prop:=
 cs.length=es.length * size∧(∀(i:Nat) (e:PV),es[i]?=some e→e.cells.length=size)∧
 ∀(i:Nat) (e:PV) (j:Nat) (p:PV),es[i]?=some e→e.cells[j]?=some p→∃c,cs[i * size+j]?=some c∧Rep I w c p
theorem RowOk.mono{I I':Imm}{w w':World}{size:Nat}{cs:List Value}{es:List PV}(h:RowOk I w size cs es)(hI:∀b x,I b x→I' b x)(hs:Same I w w'):RowOk I' w' size cs es:=
 ⟨h.1,h.2.1,fun i e j p he hp=>let ⟨c,h1,h2⟩:=h.2.2 i e j p he hp;⟨c,h1,h2.mono hI hs⟩⟩
theorem RowOk.nil(I:Imm)(w:World)(size:Nat):RowOk I w size [] []:=⟨by simp,fun i e h=>by simp at h,fun i e j p h=>by simp at h⟩
theorem RowOk.append{I:Imm}{size:Nat}{cs ds:List Value}{es fs:List PV}(h:RowOk I w size cs es)(k:RowOk I w size ds fs):RowOk I w size (cs++ds) (es++fs):=by
 refine⟨by simp[h.1,k.1,Nat.add_mul],fun i e he=>?_,fun i e j p he hp=>?_⟩
 ·by_cases hi:i<es.length
  ·rw[List.getElem?_append_left hi] at he;exact h.2.1 i e he
  ·rw[List.getElem?_append_right (by omega)] at he;exact k.2.1 _ e he
 ·by_cases hi:i<es.length
  ·rw[List.getElem?_append_left hi] at he
   obtain⟨c,h1,h2⟩:=h.2.2 i e j p he hp;refine⟨c,?_,h2⟩
   rw[List.getElem?_append_left (List.getElem?_eq_some_iff.1 h1).1];exact h1
  ·rw[List.getElem?_append_right (by omega)] at he
   obtain⟨c,h1,h2⟩:=k.2.2 _ e j p he hp;refine⟨c,?_,h2⟩
   have hge:es.length * size≤i * size:=Nat.mul_le_mul_right _ (by omega)
   rw[List.getElem?_append_right (by rw[h.1];omega),h.1]
   rw[Nat.sub_mul] at h1;rw[show i * size+j - es.length * size=i * size - es.length * size+j from by omega]
   exact h1
theorem AkT{I:Imm}{ad:Addr}{size:Nat}{es:List PV}{cv:Nat→Nat→Value}(hs0:0<size)(hspot:es≠[]→ad.spot=none)
  (hsz:∀(i:Nat) (e:PV),es[i]?=some e→e.cells.length=size)
  (hc:∀(i:Nat) (e:PV) (j:Nat) (p:PV),es[i]?=some e→e.cells[j]?=some p→w.cell? ⟨ad.block,ad.off+i * size+j,none⟩=some (cv i j))
  (hr:∀(i:Nat) (e:PV) (j:Nat) (p:PV),es[i]?=some e→e.cells[j]?=some p→Rep I w (cv i j) p) :
  ∃cs:List Value,RowOk I w size cs es∧(∀(j:Nat) (v:Value),cs[j]?=some v→w.cell? (ad.add j)=some v)∧∀(i:Nat) (j:Nat),i<es.length→j<size→cs[i * size+j]?=some (cv i j):=by
 have hget:∀k,k<es.length * size→((List.range (es.length * size)).map fun k=>cv (k / size) (k % size))[k]?=some (cv (k / size) (k % size)):=by
  intro k hk;rw[List.getElem?_map,List.getElem?_range hk];rfl
 have hlt:∀i j,i<es.length→j<size→i * size+j<es.length * size:=by
  intro i j hi hj;have:(i+1) * size≤es.length * size:=Nat.mul_le_mul_right _ (by omega)
  rw[Nat.succ_mul] at this;omega
 have hdm:∀i j,j<size→(i * size+j) / size=i∧(i * size+j) % size=j:=by
  intro i j hj;constructor
  ·rw[Nat.mul_comm,Nat.mul_add_div hs0,Nat.div_eq_of_lt hj];omega
  ·rw[Nat.mul_comm,Nat.mul_add_mod,Nat.mod_eq_of_lt hj]
 refine⟨(List.range (es.length * size)).map fun k=>cv (k / size) (k % size),⟨by simp,hsz,fun i e j p he hp=>?_⟩,fun k v hk=>?_,fun i j hi hj=>?_⟩
 ·have hi:=(List.getElem?_eq_some_iff.1 he).1
  have hj:j<size:=by have:=(List.getElem?_eq_some_iff.1 hp).1;rw[hsz i e he] at this;exact this
  refine⟨cv i j,?_,hr i e j p he hp⟩
  rw[hget _ (hlt i j hi hj),(hdm i j hj).1,(hdm i j hj).2]
 ·have hkl:k<es.length * size:=by have:=(List.getElem?_eq_some_iff.1 hk).1;simpa using this
  rw[hget k hkl] at hk;cases hk;have hi:k / size<es.length:=(Nat.div_lt_iff_lt_mul hs0).2 hkl;have hj:k % size<size:=Nat.mod_lt _ hs0;have hne:es≠[]:=by intro h;subst h;simp at hi
  have he:=List.getElem?_eq_getElem hi
  have hcl:k % size<(es[k / size]).cells.length:=by rw[hsz _ _ he];exact hj
  have hp:=List.getElem?_eq_getElem hcl
  have:=hc _ _ _ _ he hp;have e1:k / size * size+k % size=k:=by rw[Nat.mul_comm];exact Nat.div_add_mod k size
  rw[show ad.off+k / size * size+k % size=ad.off+k from by omega] at this
  have had:ad.add k=⟨ad.block,ad.off+k,none⟩:=by
   have hsp:=hspot hne;cases ad;dsimp only at hsp;subst hsp;exact Ax5 ..
  rw[had];exact this
 ·rw[hget _ (hlt i j hi hj),(hdm i j hj).1,(hdm i j hj).2]
theorem src_of{size:Nat}(hs0:0<size){xT:TypeId}(hxT:(∃e',P.underlying xT=some (.slice e'))∨P.underlying xT=some .string){v:Value}{x:PV}{bl:Bl}(hr:RepT G.I bl w v x){xs:List PV}(hx:appX size x=some xs)
  (hones:xs.all PV.ones=true):∃news,Src P size xT v xs.length news w∧RowOk G.I w size news xs:=by
 rw[List.all_eq_true] at hones;cases x with
 |slice own sz es=>
  simp only[appX] at hx
  split at hx
  ·rename_i hsz';subst hsz';cases hx;obtain⟨ad,len,cap,cv,rfl,rfl,e2,e3,e4,e5,e6,e7⟩:=hr.Ax6;obtain⟨cs,hrow,hcell,hcv⟩:=AkT (I:=G.I) hs0 e3 e4 e6 e7;refine⟨cs,⟨hxT,fun _=>rfl,run_firstCells_some w sz _ ad _ _ cs hrow.1 hcell,run_firstCells_some w.drew sz _ ad _ _ cs hrow.1 hcell,hrow.1,fun u hu=>?_⟩,hrow⟩
   obtain⟨k,hk⟩:=List.mem_iff_getElem?.1 hu;have hkl:k<xs.length * sz:=by have:=(List.getElem?_eq_some_iff.1 hk).1;rw[hrow.1] at this;exact this
   have hi:k / sz<xs.length:=(Nat.div_lt_iff_lt_mul hs0).2 hkl;have hj:k % sz<sz:=Nat.mod_lt _ hs0;have he:=List.getElem?_eq_getElem hi
   have hcl:k % sz<(xs[k / sz]).cells.length:=by rw[e4 _ _ he];exact hj
   have hp:=List.getElem?_eq_getElem hcl
   have hrep:=e7 _ _ _ _ he hp;have:=hcv (k / sz) (k % sz) hi hj;rw[show k / sz * sz+k % sz=k from by rw[Nat.mul_comm];exact Nat.div_add_mod k sz,hk] at this
   cases this;refine one_rep hrep ?_
   exact List.all_eq_true.1 (hones _ (List.getElem_mem hi)) _ (List.getElem_mem hcl)
  ·cases hx
 |nils=>
  simp only[appX] at hx;cases hx;have:=hr.AxB;subst this;refine⟨[],⟨hxT,fun _=>rfl,run_firstCells_none w size 0 0 0,run_firstCells_none w.drew size 0 0 0,by simp,fun _ h=>by cases h⟩,RowOk.nil ..⟩
 |empt=>
  simp only[appX] at hx;cases hx;obtain⟨ad,rfl⟩:=hr.AjI;exact⟨[],⟨hxT,fun _=>rfl,run_firstCells_some w size 0 ad 0 0 [] (by simp) (fun j u h=>by simp at h),run_firstCells_some w.drew size 0 ad 0 0 [] (by simp) (fun j u h=>by simp at h),by simp,fun _ h=>by cases h⟩,RowOk.nil ..⟩
 |str l=>
  simp only[appX] at hx
  split at hx
  ·rename_i h1;subst h1;cases hx;obtain⟨s,rfl,rfl⟩:=hr.Ax2
   refine⟨byteCells s,⟨hxT,fun _=>by rw[List.length_map,←Lib.size_eq];rfl,by rw[List.length_map,←Lib.size_eq];exact firstCells_string s w,by rw[List.length_map,←Lib.size_eq];exact firstCells_string s w.drew,
    by rw[byteCells_length,Nat.mul_one,List.length_map];exact Lib.size_eq s,fun u hu=>by obtain⟨_,_,rfl⟩:=List.mem_map.1 hu;rfl⟩,?_⟩
   refine⟨by rw[byteCells_length,Nat.mul_one,List.length_map];exact Lib.size_eq s,fun i e he=>?_,fun i e j p he hp=>?_⟩
   ·rw[List.getElem?_map] at he
    obtain⟨b,_,rfl⟩:=Option.map_eq_some_iff.1 he;rfl
   ·rw[List.getElem?_map] at he
    obtain⟨b,hb,rfl⟩:=Option.map_eq_some_iff.1 he;cases j with
    |zero=>
     simp[PV.cells] at hp;subst hp;exact⟨.int .u8 b.toNat,by rw[byteCells,Nat.mul_one,Nat.add_zero,List.getElem?_map,hb];rfl,.int _ _⟩
    |succ j=>simp[PV.cells] at hp
  ·cases hx
 |_=>simp[appX] at hx
end
end Go.Abs

namespace Go.Abs
open Go.RowKit
section
variable{P:Program}{pur:FuncId→Bool}{call:Caller}{fi:FI}{cx:Cx}{G:Gh}{a:Act}{w:World}{A A':Frm}{σ σ':Sto}
theorem Az6(b:Nat)(t:TypeId)(fr:Nat×Nat):∀(vs:List Value) (o:Nat) (w:World) (cur:Array Value),w.heap[b]?=some (.cells cur t fr)→
  ∃cur':Array Value,cur'.size=cur.size∧(w.setCells b o vs).heap[b]?=some (.cells cur' t fr)
 |[],_,_,cur,h=>⟨cur,rfl,h⟩
 |v::r,o,w,cur,h=>by
  have h1:(w.setCell ⟨b,o,none⟩ v).heap[b]?=some (.cells (cur.setIfInBounds o v) t fr):=by
   simp only[World.setCell,Array.getElem?_modify,if_true,h]
   rfl
  obtain⟨cur',e,h2⟩:=Az6 b t fr r (o+1) _ _ h1;exact⟨cur',by simpa using e,h2⟩
theorem AqT(b:Nat):∀(vs:List Value) (o:Nat) (w:World) (k:Nat),k≠b→(w.setCells b o vs).heap[k]?=w.heap[k]?
 |[],_,_,_,_=>rfl
 |v::r,o,w,k,h=>by
  rw[World.setCells,AqT b r _ _ k h];simp only[World.setCell,Array.getElem?_modify]
  rw[if_neg (fun e=>h e.symm)]
theorem size_setCells(b:Nat):∀(vs:List Value) (o:Nat) (w:World),(w.setCells b o vs).heap.size=w.heap.size
 |[],_,_=>rfl
 |v::r,o,w=>by rw[World.setCells,size_setCells b r];simp[World.setCell]
theorem Ak5(b:Nat):∀(vs:List Value) (o:Nat) (w:World),(w.setCells b o vs).tape=w.tape
 |[],_,_=>rfl
 |v::r,o,w=>by rw[World.setCells,Ak5 b r];rfl
theorem AQJ{I:Imm}{w':World}{b off size n cap:Nat}{own:Bool}{cs:List Value}{es:List PV}(hn:n=es.length)(hcap:n≤cap)(hrow:RowOk I w' size cs es)
  (hI:∀k,k<cs.length→I b (some (off+k))) (hc:∀k (v:Value),cs[k]?=some v→w'.cell? ⟨b,off+k,none⟩=some v):Rep I w' (.slice (some ⟨b,off,none⟩) n cap) (.slice own size es):=by
 refine .slice (fun i j=>cs.getD (i * size+j) undef) hn hcap (fun _=>rfl) hrow.2.1 (fun i e j p he hp=>?_) (fun i e j p he hp=>?_) (fun i e j p he hp=>?_)
 all_goals obtain⟨c,h1,h2⟩:=hrow.2.2 i e j p he hp
 ·have:=hI _ (List.getElem?_eq_some_iff.1 h1).1
  rw[←Nat.add_assoc] at this;exact this
 ·have:=hc _ _ h1;rw[←Nat.add_assoc] at this;rw[List.getD_eq_getElem?_getD,h1];exact this
 ·rw[List.getD_eq_getElem?_getD,h1];exact h2
theorem AjY{need old bytes:Nat}(h:old<need)(hn:need≤AqC)(hb:bytes≤4096):Builtin.nextslicecap need old * bytes≤281474976710656:=by
 have h1:=nextslicecap_le h;unfold AqC at hn;have:Builtin.nextslicecap need old * bytes≤(2 * 4294967296) * 4096:=Nat.mul_le_mul (by omega) hb
 omega
theorem grownCap_ge(w:World)(need old:Nat)(e:TypeId):need≤grownCap w need old e:=by
 simp only[grownCap,Question.cut];omega
theorem sim_app(hi:Inv cx G a w A σ)(hkd:∀t,cx.kd t=fi.kind t)(hnt:cx.nt=fi.nt){o:Oper}{c:Call}(ho:o.op=.call c)(hb:c.callee=.builtin .append)
  {sT xT e:TypeId} {u d:Nat} {y:Operand} (hargs:c.args=#[.tmp u,y]) (htys:c.argTypes=#[sT,xT]) (hod:o.dst=some d)
  (hsT:P.underlying sT=some (.slice e)) (hxT:(∃e',P.underlying xT=some (.slice e'))∨P.underlying xT=some .string) {it:TypeInfo} (hit:P.info? e=some it)
  (hs0:0<it.size) (hby:it.bytes≤4096) (hz:(it.zero.map (·.cells.size))=some it.size)
  {as:List AArg} (hc:Aq2 fi [.tmp u,y]=some as) (hd:AqK fi d=true) (hu:AqK fi u=true) (hne:d≠u)
  (hrun:runA pur call { dst:=some d,k:=.p (.app it.size),args:=as,ex:=[u] } A σ=some (A',σ')):Gives P cx o a w A' σ':=by
 obtain⟨vs,rs,he,hsem,rfl,hA⟩:=run2 hrun;obtain⟨y1,zs,rfl,hy1,hz1⟩:=Aq3 hc;obtain⟨y2,zs,rfl,hy2,hz2⟩:=Aq3 hz1;cases hz2;obtain⟨s,qs,rfl,hs,hq⟩:=Aq1 he;obtain⟨x,qs,rfl,hx,hq⟩:=Aq1 hq;cases hq;have huv:=AxN hkd hnt hu;have hdv:=AxN hkd hnt hd
 have hyy:y1=.slot u:=by
  simp only[AxQ] at hy1
  split at hy1<;>first | (split at hy1<;>first | (cases hy1;rfl) | cases hy1) | cases hy1
 subst hyy;obtain⟨z,hz',hzs⟩:=Option.map_eq_some_iff.1 hz;simp only[semP,appV] at hsem
 split at hsem
 case h_2=>cases hsem
 rename_i es xs hes hxs;have hsfree:s.free=true:=by cases s<;>first | rfl | simp[appS] at hes
 have hxfree:x.free=true:=by cases x<;>first | rfl | simp[appX] at hxs
 obtain⟨hsrep,hsown⟩:=Aw5 hi huv.2 hs hsfree;have hxrep:=Aq5 hi hkd hy2 hx hxfree;obtain⟨consts,hrun'⟩:=Ax3 (P:=P) (w:=w) (a:=a) ho hb;rw[hargs,htys] at hrun';have hat:∀v,d≠u→at' (a.put (some d) v) u=at' a u:=fun v h=>AxM _ _ _ _ (fun e=>h (Option.some.inj e))
 have hev:(#[Operand.tmp u,y].map a.eval)=#[at' a u,a.eval y]:=by simp[Act.eval,at']
 rw[hev] at hrun'
 have hfin:∀{v:Value} {w':World},(Builtin.append_ #[sT,xT] o.type #[at' a u,a.eval y]).run P w=.ok v w'→(execOp a.eval o).run P w=.ok (.value v) w':=by
  intro v w' h;rw[hrun'];simp only[builtin,Sem.run_bind,h,Result.andThen_ok,Sem.run_pure]
 split at hsem
 ·
  rename_i hemp;have hxe:xs=[]:=List.isEmpty_iff.1 hemp;subst hxe;cases hsem;rw[hA _ _ rfl];obtain⟨news,hsrc,hrow⟩:=src_of (P:=P) (G:=G) hs0 hxT hxrep hxs (by rfl)
  have hn0:news=[]:=List.length_eq_zero_iff.1 (by rw[hsrc.newsLen];simp)
  subst hn0
  have hrun0:(Builtin.append_ #[sT,xT] o.type #[at' a u,a.eval y]).run P w=.ok (at' a u) w:=by
   cases s with
   |slice own sz es'=>
    cases own with
    |false=>simp[appS] at hes
    |true=>
     obtain⟨b,off,cap,cs,elem,ev,_,_,_,_,_,_,hle⟩:=hsown;rw[ev];exact run_append_room_src w sT xT o.type e it hsT hit b off _ cap _ _ [] hsrc (by simpa using hle) (by simp) (by simp)
   |nils=>
    have ev:=hsrep.AxB;rw[ev];have hc0:=hsrc.cells;have hl0:=hsrc.len w;simp only[List.length_nil] at hc0 hl0;rcases hxT with⟨e',hk⟩ | hk<;>simp[Builtin.append_,run_underlying hsT,run_underlying hk,sizeOf,typeInfo,hit,hl0,hc0]
   |_=>simp[appS] at hes
  obtain⟨G',e1,e2,hext,hbase,how'⟩:=own_move (d:=d) hi.base hsown
  have hatu:at' (a.put (some d) (at' a u)) u=at' a u:=by
   by_cases h:d=u
   ·subst h;exact AxH _ _ _ (by rw[hi.size];exact hdv.1)
   ·exact hat _ h
  refine .inl ⟨at' a u,w,hfin hrun0,G',?_⟩
  rw[hod];exact hi.put2 hdv huv hext hbase e2 hsfree (by rw[AqH];exact hsfree) (by rw[e1,e2];exact hsrep) (fun _=>how') (by rw[hatu,e1,e2];exact hsrep.Aq0) (fun _ _=>AqA s)
 ·rename_i hemp
  split at hsem
  case isFalse=>cases hsem
  rename_i hcond;obtain⟨hmax,hones⟩:=hcond;cases hsem;rw[hA _ _ rfl];obtain⟨news,hsrc,hrow⟩:=src_of (P:=P) (G:=G) hs0 hxT hxrep hxs hones
  have hxlen:0<xs.length:=by
   cases xs with
   |nil=>simp at hemp
   |cons _ _=>simp
  have grow:∀(base:Option Addr) (sCap:Nat) (olds:List Value),at' a u=.slice base es.length sCap→sCap<es.length+xs.length→RowOk G.I w it.size olds es→
    (Builtin.firstCells it.size es.length (.slice base es.length sCap)).run P w.drew=.ok olds.toArray w.drew→
    Gives P cx o a w ((A.set d (some (.slice true it.size (es++xs)))).set u (some s.Aq0)) σ':=by
   intro base sCap olds ev hlt holds hfc;have hr:=run_append_grow_src w sT xT o.type e it z hsT hit hz' base es.length sCap olds hfc (a.eval y) xs.length news hsrc hlt (by unfold AqC at hmax;omega) (AjY hlt hmax hby)
   rw[←ev] at hr
   let J:Option Nat→Prop:=fun x=>∃o,x=some o∧o<(es.length+xs.length) * it.size
   let cells:Array Value:=(olds++news).toArray++Builtin.zeroCells z.cells (grownCap w (es.length+xs.length) sCap e - (es.length+xs.length))
   have hext0:=(AkF (G:=G) (w:=w) (fun tg=>tg=.slot u none∨tg=.slot d none)).trans (AxD _ (AxW hi.base) (.cells cells e) J (some (.slot d none)))
   have hbase0:=Ax0 (AxW hi.base) (.cells cells e) J (some (.slot d none));have hrow2:=(holds.append hrow).mono hext0.I hext0.same;have hlen2:(olds++news).length=(es.length+xs.length) * it.size:=by rw[List.length_append,holds.1,hrow.1,Nat.add_mul]
   refine .inl ⟨_,_,hfin hr,G.newB w.heap.size J (some (.slot d none)),?_⟩
   rw[hod]
   refine hi.put2 hdv huv hext0 hbase0 rfl rfl (by rw[AqH];exact hsfree) (.one (.inl (AQJ (by simp) (grownCap_ge ..) hrow2 (fun k hk=>.inr ⟨rfl,_,rfl,by rw[Nat.zero_add];rw[hlen2] at hk;exact hk⟩) (fun k v hk=>?_)))) (fun _=>?_)
    (by rw[hat _ hne];exact(hsrep.mono hext0.I hext0.same hext0.bl).Aq0) (fun _ _=>AqA s)
   ·rw[Nat.zero_add];have:=AXO w.drew cells e (0,0) k;refine this.trans ?_
    have hlt':=(List.getElem?_eq_some_iff.1 hk).1
    simp only[cells];rw[Array.getElem?_append_left (by simpa using hlt')]
    simpa using hk
   ·refine⟨w.heap.size,0,grownCap w (es.length+xs.length) sCap e,cells,e,by rw[List.length_append],by simp[Gh.newB],?_,?_,heap_alloc_new' _ _,?_,hs0,by rw[List.length_append];exact grownCap_ge ..⟩
    ·rintro(h | ⟨_,o,h,_⟩)
     ·have:=hi.base.lt _ _ h;omega
     ·cases h
    ·intro o' ho' h;rcases h with h | ⟨_,o'',h,hlt⟩
     ·have:=hi.base.lt _ _ h;omega
     ·cases h;rw[List.length_append] at ho';omega
    ·have hge:=grownCap_ge w (es.length+xs.length) sCap e;simp only[cells,Array.size_append,List.size_toArray,hlen2,Builtin.zeroCells,Array.size_map,Array.size_range,hzs];rw[←Nat.add_mul];have:es.length+xs.length+(grownCap w (es.length+xs.length) sCap e - (es.length+xs.length))=grownCap w (es.length+xs.length) sCap e:=by omega
     rw[this];omega
  cases s with
  |slice own sz es'=>
   cases own with
   |false=>simp[appS] at hes
   |true=>
    simp only[appS] at hes
    split at hes
    case isFalse=>cases hes
    rename_i hsz';subst hsz';cases hes;obtain⟨b,off,cap,cs,elem,ev,hω,hIn,hIt,hheap,hcapsz,_,hle⟩:=hsown;obtain⟨ad,len,cap',cv,ev',e1,e2,e3,e4,e5,e6,e7⟩:=hsrep.Ax6;rw[ev] at ev';cases ev';by_cases hfit:es.length+xs.length≤cap
    ·
     have hnlen:news.length=xs.length * it.size:=hsrc.newsLen;have hmul:(es.length+xs.length) * it.size≤cap * it.size:=Nat.mul_le_mul_right _ hfit;rw[Nat.add_mul] at hmul
     have hin:∀j,j<news.length→(w.cell? ⟨b,off+es.length * it.size+j,none⟩).isSome=true:=by
      intro j hj;simp only[World.cell?,hheap];have:off+es.length * it.size+j<cs.size:=by omega
      simp[this]
     have hr:=run_append_room_src w sT xT o.type e it hsT hit b off es.length cap (a.eval y) xs.length news hsrc hfit hin (fun j hj=>by simp[World.frozen?,hheap])
     rw[←ev] at hr;obtain⟨olds,holdrow,holdcell,_⟩:=AkT (I:=G.I) hs0 (fun _=>rfl) e4 e6 e7
     let w':=w.setCells b (off+es.length * it.size) news
     let G':Gh:=⟨fun b' x=>G.I b' x∨(b'=b∧∃o,x=some o∧off+es.length * it.size≤o∧o<off+(es.length+xs.length) * it.size),fun b'=>if b'=b then some (.slot d none) else G.ω b',G.bl⟩
     have hsame:Same G.I w w':=by
      refine⟨fun b' o' h=>?_,fun b' h=>?_⟩
      ·refine World.cell?_setCells_out b news _ w _ (fun hb' _=>.inl ?_)
       dsimp only at hb' ⊢;subst hb';rcases Nat.lt_or_ge o' (off+es.length * it.size) with h' | h'
       ·exact h'
       ·exact absurd h (hIt o' h')
      ·refine AqT b _ _ _ _ (fun e=>?_)
       subst e;exact hIn h
     have hext:Ext (fun tg=>tg=.slot u none∨tg=.slot d none) G G' w w':=by
      refine⟨fun _ _ h=>.inl h,hsame,Bl.le_refl _,fun _ _ _ _=>rfl,fun b' tg h hX=>?_⟩
      have hbb:b'≠b:=by
       intro e;subst e;rw[hω] at h;cases h;exact hX (.inl rfl)
      refine⟨by simp[G',hbb,h],AqT b _ _ _ _ hbb,fun x hx=>?_⟩
      rcases hx with hx | ⟨e,_⟩
      ·exact hx
      ·exact absurd e hbb
     have hnK:=(hi.base.own b _ hω).2
     have hbase:Base cx G' w':=by
      have hb0:=hi.base;refine⟨fun b' hK=>?_,hb0.same.trans hsame hb0.sub,fun b' x h=>.inl (hb0.sub b' x h),fun b' x h=>?_,fun b' x h=>?_,fun b' tg h=>?_,hb0.Klt,by rw[size_setCells];exact hb0.grow,hb0.bl,?_,by rw[Ak5];exact hb0.tape,?_⟩
      ·rw[AqT b _ _ _ _ (fun e=>hnK (e▸hK))];exact hb0.keep b' hK
      ·rcases h with h | ⟨rfl,_⟩
       ·exact hb0.new b' x h
       ·exact .inr hnK
      ·rw[size_setCells];rcases h with h | ⟨rfl,_⟩
       ·exact hb0.lt b' x h
       ·exact(hb0.own _ _ hω).1
      ·rw[size_setCells];simp only[G'] at h
       split at h
       ·rename_i e;subst e;exact hb0.own _ _ hω
       ·exact hb0.own _ _ h
      ·rw[World.os_setCells];exact hb0.os
      ·rw[World.output_setCells];exact hb0.output
     have hrow2:RowOk G'.I w' it.size (olds++news) (es++xs):=(holdrow.append hrow).mono hext.I hext.same;have hlen2:(olds++news).length=(es.length+xs.length) * it.size:=by rw[List.length_append,holdrow.1,hrow.1,Nat.add_mul]
     obtain⟨cur',hcur1,hcur2⟩:=Az6 b elem (0,0) news (off+es.length * it.size) w cs hheap;refine .inl ⟨_,w',hfin hr,G',?_⟩
     rw[hod]
     refine hi.put2 hdv huv hext hbase rfl rfl rfl (.one (.inl (AQJ (by simp) (by simpa using hfit) hrow2 (fun k hk=>?_) (fun k v hk=>?_)))) (fun _=>?_)
      (by rw[hat _ hne];exact(hsrep.mono hext.I hext.same hext.bl).Aq0) (fun _ _=>AqA _)
     ·rw[hlen2] at hk;by_cases hko:k<es.length * it.size
      ·refine .inl ?_
       have hi':k / it.size<es.length:=(Nat.div_lt_iff_lt_mul hs0).2 hko;have hj':k % it.size<it.size:=Nat.mod_lt _ hs0;have he':=List.getElem?_eq_getElem hi'
       have hcl:k % it.size<(es[k / it.size]).cells.length:=by rw[e4 _ _ he'];exact hj'
       have:=e5 _ _ _ _ he' (List.getElem?_eq_getElem hcl)
       dsimp only at this;rw[show off+k / it.size * it.size+k % it.size=off+k from by have:=Nat.div_add_mod k it.size;rw[Nat.mul_comm] at this;omega] at this
       exact this
      ·exact .inr ⟨rfl,_,rfl,by omega,by omega⟩
     ·have hkl:=(List.getElem?_eq_some_iff.1 hk).1
      by_cases hko:k<olds.length
      ·rw[List.getElem?_append_left hko] at hk
       have h0:=holdcell k v hk;rw[Ax5] at h0;have:w'.cell? ⟨b,off+k,none⟩=w.cell? ⟨b,off+k,none⟩:=World.cell?_setCells_out b news _ w _ (fun _ _=>.inl (by dsimp only;rw[holdrow.1] at hko;omega))
       rw[this];exact h0
      ·rw[List.getElem?_append_right (by omega),holdrow.1] at hk
       have hkn:k - es.length * it.size<news.length:=(List.getElem?_eq_some_iff.1 hk).1
       have h0:=World.cell?_setCells_in b news (off+es.length * it.size) w hin _ hkn
       rw[holdrow.1] at hko;rw[show off+es.length * it.size+(k - es.length * it.size)=off+k from by omega] at h0
       rw[h0,←List.getElem?_eq_getElem hkn];exact hk
     ·refine⟨b,off,cap,cur',elem,by rw[List.length_append],by simp[G'],?_,?_,hcur2,by omega,hs0,by rw[List.length_append];exact hfit⟩
      ·rintro(h | ⟨_,o',h,_⟩)
       ·exact hIn h
       ·cases h
      ·intro o' ho' h;rw[List.length_append,Nat.add_mul] at ho';rcases h with h | ⟨_,o'',h,h1,h2⟩
       ·exact hIt o' (by omega) h
       ·cases h;rw[Nat.add_mul] at h2;omega
    ·obtain⟨olds,holdrow,holdcell,_⟩:=AkT (I:=G.I) hs0 (fun _=>rfl) e4 e6 e7
     exact grow _ cap olds ev (by omega) holdrow (run_firstCells_some w.drew it.size _ _ _ _ olds holdrow.1 holdcell)
  |nils=>
   simp only[appS] at hes;cases hes;exact grow none 0 [] hsrep.AxB (by simpa using hxlen) (RowOk.nil ..) (run_firstCells_none w.drew it.size 0 0 0)
  |_=>simp[appS] at hes
end
end Go.Abs

namespace Go.Abs
open Go.RowKit
section
variable{P:Program}{pur:FuncId→Bool}{call:Caller}{fi:FI}{cx:Cx}{G:Gh}{a:Act}{w:World}{A A':Frm}{σ σ':Sto}
theorem AqM{t:Nat}{v:PV}(hk:cx.kd t=.box):AqW cx G a w t v↔∃b,at' a t=.pointer (some ⟨b,0,none⟩)∧AxR G w b (.slot t) v.cells:=by
 unfold AqW;rw[hk]
theorem AvU(A:Frm):∀(ts:List Nat) (t:Nat) (p:PV),Frm.get (AqO A ts (ts.map fun _=>none)) t=some p→t∉ts∧A.get t=some p:=by
 intro ts
 induction ts generalizing A with
 |nil=>intro t p h;exact⟨by simp,h⟩
 |cons s ts ih=>
  intro t p h;simp only[List.map_cons,AqO] at h;obtain⟨h1,h2⟩:=ih (A.set s none) t p h;rw[AqL] at h2
  split at h2
  ·cases h2
  ·rename_i hc;refine⟨?_,h2⟩
   intro hm;rcases List.mem_cons.1 hm with rfl | hm
   ·by_cases hl:t<A.length
    ·exact hc ⟨rfl,hl⟩
    ·unfold Frm.get at h2;rw[List.getElem?_eq_none (by omega)] at h2
     cases h2
   ·exact h1 hm
theorem AqU(A:Frm):∀(ts:List Nat) (vs:List (Option PV)),(AqO A ts vs).length=A.length
 |[],vs=>by cases vs<;>rfl
 |t::ts,[]=>rfl
 |t::ts,v::vs=>by rw[AqO,AqU (A.set t v) ts vs];simp
theorem alias_ptrs{t d:Nat}(h:fi.alias t=some d):t∈fi.ptrs d:=by
 unfold FI.alias at h;obtain⟨x,hx,rfl⟩:=Option.map_eq_some_iff.1 h;have h1:=List.find?_some hx
 have h2:=List.mem_of_find?_eq_some hx
 simp only[beq_iff_eq] at h1;subst h1;exact List.mem_map.2 ⟨x,List.mem_filter.2 ⟨h2,by simp⟩,rfl⟩
theorem Ax7{p q:PV}{j:Nat}(h:p.Aq0.cells[j]?=some q):∀(G:Gh) (w:World) (tag:Tag) (c:Value),OwnOk G w tag c q:=by
 intro G w tag c;cases p with
 |agg cs=>
  simp only[PV.Aq0,PV.cells,List.getElem?_map] at h
  obtain⟨r,_,rfl⟩:=Option.map_eq_some_iff.1 h;exact OwnOk_own0 r
 |aggr cs=>
  simp only[PV.Aq0,PV.cells,List.getElem?_map] at h
  obtain⟨r,_,rfl⟩:=Option.map_eq_some_iff.1 h;exact OwnOk_own0 r
 |slice own sz es=>
  cases j with
  |zero=>simp[PV.Aq0,PV.cells] at h;subst h;trivial
  |succ j=>simp[PV.Aq0,PV.cells] at h
 |_=>
  cases j with
  |zero=>simp[PV.Aq0,PV.cells] at h;subst h;trivial
  |succ j=>simp[PV.Aq0,PV.cells] at h
theorem rep_free{I:Imm}{v:Value}{p:PV}(h:Rep I w v p):p.free=true:=by cases h<;>rfl
theorem RepT.free{I:Imm}{bl:Bl}{v:Value}{p:PV}(h:RepT I bl w v p):p.free=true:=by
 cases h with
 |one h=>
  rcases h with h | h
  ·exact rep_free h
  ·cases h<;>rfl
 |func _ _ _ _=>rfl
 |tuple _ _=>rfl
 |aggr _ _=>rfl
def RepTL(I:Imm)(bl:Bl)(w:World)(cs:List Value)(ps:List PV):Prop:=cs.length=ps.length∧∀(i:Nat) (p:PV),ps[i]?=some p→∃c,cs[i]?=some c∧RepT I bl w c p
theorem RepTL.of_L{I:Imm}{bl:Bl}{cs:List Value}{ps:List PV}(h:RepL I w cs ps):RepTL I bl w cs ps:=
 ⟨h.1,fun i p hp=>by obtain⟨c,h1,h2⟩:=h.2 i p hp;exact⟨c,h1,.one (.inl h2)⟩⟩
theorem AvB{p:PV}(h:p.okc=true):p.free=true:=by
 cases p<;>first | rfl | simp[PV.okc,PV.flat,PV.isRef,PV.isFn] at h
theorem cell_own0(c:PV):((c.own0.flat||c.own0.isRef)&&c.own0.one)=((c.flat||c.isRef)&&c.one):=by cases c<;>rfl
theorem cells_own0:∀cs:List PV,(cs.map PV.own0).all (fun c=>(c.flat||c.isRef)&&c.one)=cs.all (fun c=>(c.flat||c.isRef)&&c.one)
 |[]=>rfl
 |c::cs=>by rw[List.map_cons,List.all_cons,List.all_cons,cell_own0,cells_own0 cs]
theorem Aj2(p:PV):p.Aq0.okc=p.okc:=by
 cases p with
 |aggr cs=>exact cells_own0 cs
 |_=>rfl
theorem RepTL.of_aggr{I:Imm}{bl:Bl}{v:Value}{ps:List PV}(h:RepT I bl w v (.aggr ps)):RepTL I bl w v.cells.toList ps:=by
 obtain⟨cs,rfl,h1,h2⟩:=h.aggr_inv;refine⟨by simpa [Value.cells] using h1,fun i p hp=>?_⟩
 have hlt:i<cs.size:=by rw[h1];exact(List.getElem?_eq_some_iff.1 hp).1
 have:=h2 i p hp;refine⟨cs[i],by simp[Value.cells,hlt],?_⟩
 rw[Array.getD_eq_getD_getElem?,Array.getElem?_eq_getElem hlt] at this
 exact .one this
theorem okc_cases{I:Imm}{bl:Bl}{v:Value}{p:PV}(h:RepT I bl w v p)(hk:p.okc=true)(hn:p.isAgg=false∨p.flat=true):Rep I w v p∨(p.cells=[p]∧v.cells=#[v]∧p.Aq0=p):=by
 by_cases hf:p.flat=true
 ·exact .inl (h.flat hf)
 ·refine .inr ?_
  cases p with
  |ref id off=>obtain⟨b,_,rfl⟩:=h.AjK;exact⟨rfl,rfl,rfl⟩
  |arr id gen off len size=>obtain⟨_,_,_,_,_,_,_,_,_,_,rfl⟩:=h.AjQ;exact⟨rfl,rfl,rfl⟩
  |aptr id gen size i off=>obtain⟨_,_,_,_,rfl⟩:=h.AkI;exact⟨rfl,rfl,rfl⟩
  |mref id=>obtain⟨_,_,rfl⟩:=h.AkB;exact⟨rfl,rfl,rfl⟩
  |func f first cap=>obtain⟨_,_,rfl,_⟩:=h.AvD;exact⟨rfl,rfl,rfl⟩
  |aggr cs=>rcases hn with h | h<;>cases h
  |_=>simp[PV.okc,PV.isRef,PV.isFn] at hk;exact absurd hk hf
theorem RepTL.of_okc{I:Imm}{bl:Bl}{v:Value}{p:PV}(h:RepT I bl w v p)(hk:p.okc=true):RepTL I bl w v.cells.toList p.cells:=by
 have hn:(∃cs,p=.aggr cs)∨(p.isAgg=false∨p.flat=true):=by cases p<;>first | exact .inl ⟨_,rfl⟩ | exact .inr (.inl rfl) | exact .inr (.inr rfl)
 rcases hn with⟨cs,rfl⟩ | hn
 ·exact .of_aggr h
 rcases okc_cases h hk hn with h | ⟨h1,h2,_⟩
 ·exact .of_L (RepL.AJW h)
 ·rw[h1,h2];refine⟨rfl,fun i q hq=>?_⟩
  cases i with
  |zero=>simp at hq;subst hq;exact⟨v,rfl,h⟩
  |succ i=>simp at hq
theorem Inv.newBox(hi:Inv cx G a w A σ)(hal:∀t,cx.al t=fi.alias t){d:Nat}(hd:d<cx.nt)(hk:cx.kd d=.box){cs:Array Value}{t:TypeId}{p:PV}(hrep:RepTL G.I G.bl w cs.toList p.cells)
  (hown:∀(j:Nat) (q:PV),p.cells[j]?=some q→∀(G:Gh) (w:World) (tag:Tag) (c:Value),OwnOk G w tag c q) :
  Sim cx (a.put (some d) (.pointer (some ⟨w.heap.size,0,none⟩))) (w.alloc (.cells cs t)) (AqO (A.set d (some p)) (fi.ptrs d) ((fi.ptrs d).map fun _=>none)) σ:=by
 let G':=G.newB w.heap.size (fun _=>False) (some (.slot d none))
 have hext:=AxD (fun tg=>∃j,tg=.slot d j) hi.base (.cells cs t) (fun _=>False) (some (.slot d none))
 refine⟨G',hi.step _ (some d) _ hext (Ax0 hi.base _ _ _) (by rw[AqU];simp) ?_ (fun id cs hc=>.inl ⟨hc,fun j h=>by obtain⟨_,h⟩:=h;cases h⟩) hi.len hi.abl⟩
 intro s q hq;obtain⟨hns,hq⟩:=AvU _ _ _ _ hq;rw[AqL] at hq
 split at hq
 ·rename_i hc;cases hq;rw[hc.1];refine .inr ((AqM hk).2 ⟨w.heap.size,AxH _ _ _ (by rw[hi.size];exact hd),if_pos rfl,?_,cs,t,heap_alloc_new' _ _,by simpa using hrep.1,fun j r hr=>.inl ⟨?_,hown j r hr ..⟩⟩)
  ·rintro x (h | ⟨_,h⟩)
   ·have:=hi.base.lt _ _ h;omega
   ·exact h
  ·obtain⟨c,hc1,hc2⟩:=hrep.2 j r hr;rw[Array.getElem?_toList] at hc1
   rw[Array.getD_eq_getD_getElem?,hc1];exact hc2.mono hext.I hext.same hext.bl
 ·rename_i hc;have hsd:s≠d:=fun e=>hc ⟨e,by have:=hi.room;omega⟩
  refine .inl ⟨hq,fun e=>hsd (Option.some.inj e).symm,fun j h=>?_,fun d' off e hbx hdd=>?_,fun m hm=>?_⟩
  ·obtain⟨j',h⟩:=h;cases h;exact hsd rfl
  ·have:=Option.some.inj hdd;subst this;subst e;have hsl:=hi.slot s _ hq;unfold AqW at hsl
   have hals:cx.al s=some d:=by
    cases hks:cx.kd s with
    |box => 
     rw[hks] at hsl;obtain⟨b,_,h1,h2,cs',el,h3,h4,h5⟩:=hsl;have:=((h5 0 (.lref d off) rfl).rep (by simp)).1
     exact absurd this.free (by simp[PV.free])
    |mapb keys=>rw[hks] at hsl;exact absurd hsl.1 (by simp)
    |ent m key=>rw[hks] at hsl;obtain⟨_,_,_,_,h,_⟩:=hsl;cases h
    |plain=>rw[hks] at hsl;exact hsl.2.1
    |imm=>rw[hks] at hsl;exact hsl.2.1
    |obj=>rw[hks] at hsl;exact hsl.2.1
   rw[hal] at hals;exact hns (alias_ptrs hals)
  ·obtain⟨keys,hkm⟩:=cx.ents s m hm;have:m≠d:=fun e=>by rw[e,hk] at hkm;cases hkm
   refine⟨fun e=>this (Option.some.inj e).symm,?_⟩
   rintro⟨j,h⟩;cases h;exact this rfl
end
end Go.Abs

namespace Go.Abs
open Go.RowKit
section
variable{P:Program}{pur:FuncId→Bool}{call:Caller}{fi:FI}{cx:Cx}{G:Gh}{a:Act}{w:World}{A A':Frm}{σ σ':Sto}
theorem runC{d:Nat}{k:PK}{as:List AArg}{clr:List Nat}(h:runA pur call { dst:=some d,k:=.p k,args:=as,clr:=clr } A σ=some (A',σ')):
  ∃vs rs,Aq8 A as=some vs∧semP k vs=some rs∧σ'=σ∧∀p,rs=[p]→A'=AqO (A.set d p) clr (clr.map fun _=>none):=by
 unfold runA at h;dsimp only at h
 split at h
 ·rename_i vs hvs;simp only[sem] at h
  split at h
  ·rename_i rs σ₁ hs;obtain⟨rs',hrs,e⟩:=Option.map_eq_some_iff.1 hs;cases e;refine⟨vs,rs,hvs,hrs,?_,?_⟩
   ·split at h
    ·cases h;rfl
    ·split at h<;>cases h;rfl
   ·rintro p rfl
    simp[AOp.wr,AqO] at h;rw[←h.1]
  ·cases h
 ·cases h
theorem sim_bxl(hi:Inv cx G a w A σ)(hkd:∀t,cx.kd t=fi.kind t)(hal:∀t,cx.al t=fi.alias t){o:Oper}{t:TypeId}{x:Operand}(ho:o.op=.box t x){d:Nat}(hod:o.dst=some d)
  (hd:d<cx.nt) (hk:cx.kd d=.box)
  {as:List AArg} (hc:Aq2 fi [x]=some as) (hrun:runA pur call { dst:=some d,k:=.p .bxl,args:=as,clr:=fi.ptrs d } A σ=some (A',σ')):Gives P cx o a w A' σ':=by
 obtain⟨vs,rs,he,hs,rfl,hA⟩:=runC hrun;obtain⟨y,zs,rfl,hy,hz⟩:=Aq3 hc;cases hz;obtain⟨p,qs,rfl,hp,hq⟩:=Aq1 he;cases hq;simp only[semP] at hs
 split at hs
 ·rename_i hf;cases hs;rw[hA _ rfl];have hrep:=(Aq5 hi hkd hy hp (AvB hf)).Aq0;refine .inl ⟨.pointer (some ⟨w.heap.size,0,none⟩),w.alloc (.cells (a.eval x).cells t),?_,?_⟩
  ·simp only[execOp,ho,Instr.box,newVar,newRow];rfl
  ·rw[hod];exact hi.newBox hal hd hk (RepTL.of_okc hrep (by rw[Aj2];exact hf)) (fun j q hq=>Ax7 hq)
 ·cases hs
theorem own_ofVal{v:Value}{p:PV}(h:ofVal v=some p):∀(j:Nat) (q:PV),p.cells[j]?=some q→∀(G:Gh) (w:World) (tag:Tag) (c:Value),OwnOk G w tag c q:=by
 have h0:∀{v:Value} {p:PV},AkW v=some p→∀sz es,p≠.slice true sz es:=by
  intro v p h sz es;unfold AkW at h
  split at h<;>cases h<;>simp
 intro j q hq G w tag c;refine AwL fun sz es e=>?_
 subst e;unfold ofVal at h
 split at h
 ·rename_i cs;obtain⟨ps,hps,rfl⟩:=Option.map_eq_some_iff.1 h
  have key:∀(vs:List Value) (ps:List PV),AJX vs=some ps→∀(i:Nat) (q:PV),ps[i]?=some q→∃v,AkW v=some q:=by
   intro vs
   induction vs with
   |nil=>intro ps h i q hq;cases h;simp at hq
   |cons v vs ih=>
    intro ps h i q hq;unfold AJX at h
    split at h
    ·rename_i r rs h1 h2;cases h;cases i with
     |zero=>simp at hq;subst hq;exact⟨v,h1⟩
     |succ i=>exact ih _ h2 i q (by simpa using hq)
    ·cases h
  obtain⟨v,hv⟩:=key _ _ hps j _ hq;exact h0 hv _ _ rfl
 ·have hp:p.cells=[p]:=by
   cases p with
   |agg cs=>unfold AkW at h;split at h<;>cases h
   |aggr cs=>unfold AkW at h;split at h<;>cases h
   |_=>rfl
  rw[hp] at hq;cases j with
  |zero=>simp at hq;exact h0 h _ _ hq
  |succ j=>simp at hq
theorem sim_zl(hi:Inv cx G a w A σ)(hal:∀t,cx.al t=fi.alias t){o:Oper}{t:TypeId}(ho:o.op=.alloc t){d:Nat}(hod:o.dst=some d)
  (hd:d<cx.nt) (hk:cx.kd d=.box) {z:PV} (hz:zeroP P t=some z)
  (hrun:runA pur call { dst:=some d,k:=.p (.zl z),args:=[],clr:=fi.ptrs d } A σ=some (A',σ')):Gives P cx o a w A' σ':=by
 obtain⟨vs,rs,he,hs,rfl,hA⟩:=runC hrun;cases he;simp only[semP] at hs;cases hs;rw[hA _ rfl];unfold zeroP at hz
 split at hz
 ·rename_i it hit;obtain⟨zv,hzv,hzp⟩:=Option.bind_eq_some_iff.1 hz;have hzr:Rep G.I w zv z:=AxF hzp;refine .inl ⟨.pointer (some ⟨w.heap.size,0,none⟩),w.alloc (.cells zv.cells t),?_,?_⟩
  ·have hzrun:(zeroValue t).run P w=.ok zv w:=by simp[zeroValue,typeInfo,hit,hzv]
   simp only[execOp,ho,Instr.alloc,Sem.run_bind,hzrun,Result.andThen_ok,newVar,newRow];rfl
  ·rw[hod];exact hi.newBox hal hd hk (.of_L (RepL.AJW hzr)) (own_ofVal hzp)
 ·cases hz
end
end Go.Abs

namespace Go.Abs
open Go.RowKit
section
variable{P:Program}{pur:FuncId→Bool}{call:Caller}{fi:FI}{cx:Cx}{G:Gh}{a:Act}{w:World}{A A':Frm}{σ σ':Sto}
theorem fits_sub{c v:PV}{off n:Nat}{ag:Bool}(h:sub c off n ag=some v):fits n ag v=true:=by
 unfold sub at h;cases ag with
 |true=>
  cases c with
  |agg cs=>
   dsimp only at h
   split at h
   ·rename_i hc;cases h;simp[fits];omega
   ·cases h
  |_=>cases h
 |false=>
  dsimp only at h
  split at h
  ·split at h
   ·cases h
   ·rename_i hag;cases h;simp only[Bool.or_eq_true,not_or] at hag;cases v with
    |agg _=>exact absurd rfl hag.1
    |aggr _=>exact absurd rfl hag.1
    |_=>rfl
  ·cases h
theorem AJL{c v:PV}{off n:Nat}{ag:Bool}(h:sub c off n ag=some v):∀(j:Nat) (p:PV),v.cells[j]?=some p→p≠.self:=by
 unfold sub at h;cases ag with
 |true=>
  cases c with
  |agg cs=>
   dsimp only at h
   split at h
   ·rename_i hc;cases h;intro j p hp e;subst e;have:=List.mem_of_getElem? hp;have hh:=List.all_eq_true.1 hc.2 _ this;cases hh
   ·cases h
  |_=>cases h
 |false=>
  dsimp only at h
  split at h
  ·split at h
   ·cases h
   ·rename_i hag;cases h;simp only[Bool.or_eq_true,not_or] at hag
    have hv:v.cells=[v]:=by
     cases v with
     |agg _=>exact absurd rfl hag.1
     |aggr _=>exact absurd rfl hag.1
     |_=>rfl
    intro j p hp e;subst e;rw[hv] at hp;cases j with
    |zero=>simp at hp;subst hp;exact hag.2 rfl
    |succ j=>simp at hp
  ·cases h
theorem sub_flat{c v:PV}{off n:Nat}(h:sub c off n true=some v):∀(j:Nat) (p:PV),v.cells[j]?=some p→p.flat=true:=by
 unfold sub at h;cases c with
 |agg cs=>
  dsimp only at h
  split at h
  ·rename_i hc;cases h;intro j p hp;exact List.all_eq_true.1 hc.2 _ (List.mem_of_getElem? hp)
  ·cases h
 |_=>cases h
theorem AqQ{t:Nat}{p:PV}{ys:List AArg}{qs:List PV}(he:Aq8 A (.slot t::ys)=some (p::qs)):A.get t=some p∧Aq8 A ys=some qs:=by
 simp only[Aq8] at he
 split at he
 ·rename_i v vs hg hv;cases he;exact⟨hg,hv⟩
 ·cases he
theorem AXY{I:Imm}{bl:Bl}{b off base n:Nat}{ag:Bool}{t:TypeId}(hn:AqG P t=some (n,ag)){c v:PV}{cs:Array Value}{elem:TypeId}(hheap:w.heap[b]?=some (.cells cs elem (0,0)))
  (hsz:base+c.cells.length≤cs.size) (hall:∀(j:Nat) (p:PV),c.cells[j]?=some p→p≠.self→RepT I bl w (cs.getD (base+j) undef) p) (hsub:sub c off n ag=some v) :
  ∃u,(Instr.loadAt t (.pointer (some ⟨b,base+off,none⟩))).run P w=.ok u w∧RepT I bl w u v:=by
 have hsc:=Aw4 hsub
 obtain⟨u,h1,h2,h3⟩:=AXZ (P:=P) (w:=w) (b:=b) (off:=base+off) (cv:=fun j=>cs.getD (base+(off+j)) undef) hn (fits_sub hsub) (fun j p hp=>by
  have h:=hsc j p hp;have hlt:base+(off+j) < cs.size:=by have:=(List.getElem?_eq_some_iff.1 h).1;omega
  rw[Nat.add_assoc];simp[World.cell?,hheap,Array.getD,hlt])
 refine⟨u,h1,?_⟩
 cases ag with
 |true=>exact .one (.inl (h2 I (fun j p hp=>(hall _ p (hsc j p hp) (AJL hsub j p hp)).flat (sub_flat hsub j p hp))))
 |false=>
  obtain⟨rfl,hv⟩:=h3 rfl;have h0:v.cells[0]?=some v:=by rw[hv];rfl
  exact hall _ v (hsc 0 v h0) (AJL hsub 0 v h0)
theorem AzC{b off n:Nat}{ag:Bool}{t:TypeId}(hn:AqG P t=some (n,ag)){tag:Option Nat→Tag}{c v:PV}(hcell:AxR G w b tag c.cells)(hsub:sub c off n ag=some v):
  ∃u,(Instr.loadAt t (.pointer (some ⟨b,off,none⟩))).run P w=.ok u w∧RepT G.I G.bl w u v:=by
 obtain⟨_,_,cs,elem,hheap,hsz,hall⟩:=hcell;have:=AXY (P:=P) (I:=G.I) (bl:=G.bl) (base:=0) hn hheap (by omega) (fun j p hp hs=>by rw[Nat.zero_add];exact((hall j p hp).rep hs).1) hsub
 rwa [Nat.zero_add] at this
theorem AX0{b off n:Nat}{ag:Bool}{t:TypeId}(hn:AqG P t=some (n,ag)){tag:Option Nat→Tag}{c v:PV}(hcell:AxR G w b tag c.cells)(hsub:subB c off n ag=some v):
  ∃u,(Instr.loadAt t (.pointer (some ⟨b,off,none⟩))).run P w=.ok u w∧RepT G.I G.bl w u v:=by
 unfold subB at hsub
 split at hsub
 ·rename_i x hx;cases hsub;exact AzC hn hcell hx
 ·cases ag with
  |false=>cases hsub
  |true=>
   cases c with
   |agg cs=>
    dsimp only at hsub
    split at hsub
    case isFalse=>cases hsub
    rename_i hc;cases hsub;obtain⟨_,_,vs,elem,hheap,hsz,hall⟩:=hcell;simp only[PV.cells] at hsz hall;have hlt:∀j,j<n→off+j<vs.size:=fun j hj=>by omega
    have h:=run_loadCells (P:=P) (w:=w) ⟨b,off,none⟩ n (fun j=>vs.getD (off+j) undef) (fun j hj=>by
     rw[Ax5];simp[World.cell?,hheap,Array.getD,hlt j hj])
    refine⟨.agg ((List.range n).map fun j=>vs.getD (off+j) undef).toArray,by simp[Instr.loadAt,Instr.sureAddr,loadVar,Aj7 hn,run_sizeOf hn,h],.aggr (by simp;omega) fun i p hp=>?_⟩
    have hp':=hp;rw[List.getElem?_take] at hp
    split at hp
    case isFalse=>cases hp
    rename_i hin;rw[List.getElem?_drop] at hp
    have e:(((List.range n).map fun j=>vs.getD (off+j) undef).toArray).getD i undef=vs.getD (off+i) undef:=by simp[Array.getD,hin]
    rw[e];have hf:=List.all_eq_true.1 hc.2 p (List.mem_of_getElem? hp');simp only[Bool.and_eq_true] at hf;exact((hall _ p hp).rep (by rintro rfl;cases hf.1)).1.rep1 hf.1
   |_=>cases hsub
theorem sim_ldl(hi:Inv cx G a w A σ)(hkd:∀t,cx.kd t=fi.kind t)(hnt:cx.nt=fi.nt){o:Oper}{t:TypeId}{d:Nat}(ho:o.op=.load t (.tmp d))(hk:cx.kd d=.box){n:Nat}{ag:Bool}(hn:AqG P t=some (n,ag))
  (hd:Aq7 fi o.dst=true) (hrun:runA pur call { dst:=o.dst,k:=.p (.ldl 0 n ag),args:=[.slot d] } A σ=some (A',σ')):Gives P cx o a w A' σ':=by
 refine AzR hi hkd hnt hd hrun fun vs rs he hs=>?_
 match vs,hs with
 |[c],hs=>
  obtain⟨hg,_⟩:=AqQ he;obtain⟨b,hb,hcell⟩:=(AqM hk).1 (hi.slot d c hg);simp only[semP] at hs;obtain⟨v,hv,e⟩:=Option.map_eq_some_iff.1 hs;cases e;obtain⟨u,h1,h2⟩:=AX0 (P:=P) hn hcell hv;have hev:a.eval (.tmp d)=.pointer (some ⟨b,0,none⟩):=hb;exact⟨_,u,rfl,by rw[AqH];exact h2.free,by simp[execOp,ho,hev,h1],h2.Aq0,fun _=>AqA _⟩
 |[],hs=>simp[semP] at hs
 |_::_::_,hs=>simp[semP] at hs
theorem AQL(hi:Inv cx G a w A σ){s d off:Nat}(hg:A.get s=some (.lref d off)):cx.kd d=.box∧cx.al s=some d∧∃b,at' a d=.pointer (some ⟨b,0,none⟩)∧at' a s=.pointer (some ⟨b,off,none⟩):=by
 have h:=hi.slot s _ hg;unfold AqW at h;cases hk:cx.kd s with
 |box=>
  rw[hk] at h;obtain⟨b,_,h1,h2,cs',el,h3,h4,h5⟩:=h;have:=((h5 0 (.lref d off) rfl).rep (by simp)).1
  exact absurd this.free (by simp[PV.free])
 |mapb keys=>rw[hk] at h;exact absurd h.1 (by simp)
 |ent m key=>rw[hk] at h;obtain⟨_,_,_,_,h,_⟩:=h;cases h
 |plain | imm | obj=>
  rw[hk] at h;obtain⟨h1,hal,b,h2,h3⟩:=h;refine⟨h1,hal,b,h2,?_⟩
  rw[h3,Ax5,Nat.zero_add]
theorem AvC(hi:Inv cx G a w A σ){s d off:Nat}(hg:A.get s=some (.lref d off)):cx.kd d=.box∧∃b,at' a d=.pointer (some ⟨b,0,none⟩)∧at' a s=.pointer (some ⟨b,off,none⟩):=
 ⟨(AQL hi hg).1,(AQL hi hg).2.2⟩
theorem sim_ldf(hi:Inv cx G a w A σ)(hkd:∀t,cx.kd t=fi.kind t)(hnt:cx.nt=fi.nt){o:Oper}{t:TypeId}{s d:Nat}(ho:o.op=.load t (.tmp s)){n:Nat}{ag:Bool}(hn:AqG P t=some (n,ag))
  (hd:Aq7 fi o.dst=true) (hrun:runA pur call { dst:=o.dst,k:=.p (.ldf d n ag),args:=[.slot s,.slot d] } A σ=some (A',σ')):Gives P cx o a w A' σ':=by
 refine AzR hi hkd hnt hd hrun fun vs rs he hs=>?_
 match vs,hs with
 |[l,c],hm=>
  obtain⟨hgs,he2⟩:=AqQ he;obtain⟨hg,_⟩:=AqQ he2;cases l with
  |lref d' off=>
   simp only[semP] at hm
   split at hm
   ·rename_i e;subst e;obtain⟨v,hv,e⟩:=Option.map_eq_some_iff.1 hm;cases e;obtain⟨hk,b,hb,hs'⟩:=AvC hi hgs;obtain⟨b',hb',hcell⟩:=(AqM hk).1 (hi.slot d' c hg);rw[hb] at hb';cases hb';obtain⟨u,h1,h2⟩:=AzC (P:=P) hn hcell hv;have hev:a.eval (.tmp s)=.pointer (some ⟨b,off,none⟩):=hs';exact⟨_,u,rfl,by rw[AqH];exact h2.free,by simp[execOp,ho,hev,h1],h2.Aq0,fun _=>AqA _⟩
   ·cases hm
  |_=>simp[semP] at hm
 |[],hs=>simp[semP] at hs
 |[_],hs=>simp[semP] at hs
 |_::_::_::_,hs=>simp[semP] at hs
end
end Go.Abs

namespace Go.Abs
open Go.RowKit
section
variable{P:Program}{pur:FuncId→Bool}{call:Caller}{fi:FI}{cx:Cx}{G:Gh}{a:Act}{w:World}{A A':Frm}{σ σ':Sto}
theorem Inv.putRef(hi:Inv cx G a w A σ){u d off b:Nat}(hu:u<cx.nt∧(cx.kd u).val=true)(hk:cx.kd d=.box)(hal:cx.al u=some d)(hb:at' a d=.pointer (some ⟨b,0,none⟩)):
  Inv cx G (a.put (some u) (.pointer (some ⟨b,off,none⟩))) w (A.set u (some (.lref d off))) σ:=by
 have hud:u≠d:=fun e=>by rw[e,hk] at hu;simp[SK.val] at hu
 refine hi.step (fun _=>False) (some u) _ (Ext.refl _ _ _) hi.base (by simp) ?_ (fun _ cs hc=>.inl ⟨hc,fun _ h=>h⟩) hi.len hi.abl
 intro t q hq;rw[AqL] at hq
 split at hq
 ·rename_i hc;cases hq;rw[hc.1];refine .inr ?_
  have h1:at' (a.put (some u) (.pointer (some ⟨b,off,none⟩))) u=.pointer (some ⟨b,off,none⟩):=AxH _ _ _ (by rw[hi.size];exact hu.1)
  have h2:at' (a.put (some u) (.pointer (some ⟨b,off,none⟩))) d=.pointer (some ⟨b,0,none⟩):=by rw[AxM _ _ _ _ (fun e=>hud (Option.some.inj e))];exact hb
  unfold AqW;cases hku:cx.kd u<;>rw[hku] at hu<;>first | (simp[SK.val] at hu;done) | exact⟨hk,hal,b,h2,by rw[h1,Ax5,Nat.zero_add]⟩
 ·rename_i hc;have hne:u≠t:=fun e=>hc ⟨e.symm,by have:=hi.room;omega⟩
  refine .inl ⟨hq,fun e=>hne (Option.some.inj e),fun _ h=>h,fun d' off' e hbx hd'=>?_,fun m hm=>⟨fun e'=>?_,fun h=>h⟩⟩
  ·have:=Option.some.inj hd';subst this;rw[hbx] at hu;simp[SK.val] at hu
  ·have:=Option.some.inj e';subst this;obtain⟨keys,hkm⟩:=cx.ents t u hm;rw[hkm] at hu;simp[SK.val] at hu
theorem sim_fal(hi:Inv cx G a w A σ)(hkd:∀t,cx.kd t=fi.kind t)(hnt:cx.nt=fi.nt)(hal:∀t,cx.al t=fi.alias t){o:Oper}{t:TypeId}{d f u:Nat}(ho:o.op=.fieldAddr t (.tmp d) f)(hou:o.dst=some u)
  {fs:Array Field} {fl:Field} (hs':P.underlying t=some (.struct fs)) (hf:fs[f]?=some fl) {n:Nat} {ag:Bool} (hn:AqG P fl.type=some (n,ag)) (hn0:n≠0)
  (hk:cx.kd d=.box) (hau:fi.alias u=some d) (hd:AqK fi u=true) (hrun:runA pur call { dst:=some u,k:=.p (.fal d fl.offset),args:=[.slot d] } A σ=some (A',σ')):Gives P cx o a w A' σ':=by
 obtain⟨vs,rs,he,hs,rfl,hA⟩:=run1 hrun
 match vs,hs with
 |[c],hm=>
  obtain⟨hg,_⟩:=AqQ he;obtain⟨b,hb,hcell⟩:=(AqM hk).1 (hi.slot d c hg);simp only[semP] at hm;rw[hA _ (Option.some.inj hm).symm];have hev:a.eval (.tmp d)=.pointer (some ⟨b,0,none⟩):=hb;refine .inl ⟨.pointer (some ⟨b,fl.offset,none⟩),w,?_,G,?_⟩
  ·have:=Aj8 (P:=P) (w:=w) hs' hf hn hn0 b 0;rw[Nat.zero_add] at this;simp[execOp,ho,hev,this]
  ·rw[hou];exact hi.putRef (AxN hkd hnt hd) hk (by rw[hal];exact hau) hb
 |[],hm=>simp[semP] at hm
 |_::_::_,hm=>simp[semP] at hm
theorem sim_fal2(hi:Inv cx G a w A σ)(hkd:∀t,cx.kd t=fi.kind t)(hnt:cx.nt=fi.nt)(hal:∀t,cx.al t=fi.alias t){o:Oper}{t:TypeId}{s d f u:Nat}(ho:o.op=.fieldAddr t (.tmp s) f)(hou:o.dst=some u)
  {fs:Array Field} {fl:Field} (hs':P.underlying t=some (.struct fs)) (hf:fs[f]?=some fl) {n:Nat} {ag:Bool} (hn:AqG P fl.type=some (n,ag)) (hn0:n≠0)
  (has:fi.alias s=some d) (hau:fi.alias u=some d) (hd:AqK fi u=true) {off:Nat} {d':Nat} (hgs:A.get s=some (.lref d' off))
  (hrun:runA pur call { dst:=some u,k:=.p (.fa fl.offset n ag),args:=[.slot s] } A σ=some (A',σ')):Gives P cx o a w A' σ':=by
 obtain⟨vs,rs,he,hs,rfl,hA⟩:=run1 hrun
 have hvs:vs=[.lref d' off]:=by
  simp only[Aq8,hgs] at he;cases he;rfl
 subst hvs;simp only[semP,faV] at hs;rw[hA _ (Option.some.inj hs).symm]
 have hdd:d'=d:=by
  have:=(AQL hi hgs).2.1;rw[hal,has] at this;exact(Option.some.inj this).symm
 subst hdd;obtain⟨hk,b,hb,hss⟩:=AvC hi hgs;have hev:a.eval (.tmp s)=.pointer (some ⟨b,off,none⟩):=hss;refine .inl ⟨.pointer (some ⟨b,off+fl.offset,none⟩),w,?_,G,?_⟩
 ·have:=Aj8 (P:=P) (w:=w) hs' hf hn hn0 b off;simp[execOp,ho,hev,this]
 ·rw[hou];exact hi.putRef (AxN hkd hnt hd) hk (by rw[hal];exact hau) hb
end
end Go.Abs

namespace Go.Abs
open Go.RowKit
section
variable{P:Program}{pur:FuncId→Bool}{call:Caller}{fi:FI}{cx:Cx}{G:Gh}{a:Act}{w:World}{A A':Frm}{σ σ':Sto}
theorem Aj3{X:Tag→Prop}{b:Nat}{t0:Tag}(hω:G.ω b=some t0)(hI:∀x,¬G.I b x)(hX:X t0)(cs:Array Value):Ext X G G w (w.setRow b cs):=by
 have hne:∀b' x,G.I b' x→b'≠b:=fun b' x h e=>hI x (e▸h)
 refine⟨fun _ _ h=>h,⟨fun b' o h=>cell_of_heap (setRow_other _ _ _ _ (hne _ _ h)),fun b' h=>setRow_other _ _ _ _ (hne _ _ h)⟩,Bl.le_refl _,fun _ _ _ _=>rfl,fun b' tg h' hn=>⟨h',setRow_other _ _ _ _ ?_,fun _ h=>h⟩⟩
 intro e;subst e;rw[hω] at h';cases h';exact hn hX
theorem AzI(hb:Base cx G w){b:Nat}{t0:Tag}(hω:G.ω b=some t0)(hI:∀x,¬G.I b x)(cs:Array Value):Base cx G (w.setRow b cs):=by
 have hne:∀b' x,G.I b' x→b'≠b:=fun b' x h e=>hI x (e▸h)
 have hK:∀b',cx.K b'→b'≠b:=fun b' h e=>(hb.own b t0 hω).2 (e▸h)
 refine⟨fun b' h=>?_,?_,hb.sub,hb.new,fun b' x h=>by rw[setRow_size];exact hb.lt b' x h,fun b' tg h=>by rw[setRow_size];exact hb.own b' tg h,hb.Klt,by rw[setRow_size];exact hb.grow,hb.bl,hb.os,hb.tape,hb.output⟩
 ·rw[setRow_other _ _ _ _ (hK b' h)];exact hb.keep b' h
 ·exact hb.same.trans (I':=G.I) ⟨fun b' o h=>cell_of_heap (setRow_other _ _ _ _ (hne _ _ h)),fun b' h=>setRow_other _ _ _ _ (hne _ _ h)⟩ hb.sub
theorem AxK{b off:Nat}{t elem:TypeId}{n:Nat}{ag:Bool}(hn:AqG P t=some (n,ag)){cs:Array Value}(hheap:w.heap[b]?=some (.cells cs elem (0,0))){v:Value}(hv:v.cells.size=n)
  (hone:∀x∈v.cells.toList,x.oneCell'=true) (hfit:off+n≤cs.size) :
  (Instr.storeAt t (.pointer (some ⟨b,off,none⟩)) v).run P w=.ok () (w.setRow b (cs.toList.take off++v.cells.toList++cs.toList.drop (off+v.cells.toList.length)).toArray):=by
 have:=run_storeCells_at P b off elem v.cells.toList 0 cs w hheap (by simp;omega) hone
 simp only[Nat.add_zero] at this;simp[Instr.storeAt,Instr.sureAddr,storeVar,run_sizeOf hn,hv] at this ⊢;exact this
theorem AXJ{I:Imm}{v:Value}{p:PV}(h:Rep I w v p)(hp:p.ones=true):∀x∈v.cells.toList,x.oneCell'=true:=by
 intro x hx;obtain⟨i,hi⟩:=List.mem_iff_getElem?.1 hx;obtain⟨h1,h2⟩:=RepL.AJW h;have hlt:i<p.cells.length:=by rw[←h1];exact(List.getElem?_eq_some_iff.1 hi).1
 have hq:=List.getElem?_eq_getElem hlt
 obtain⟨c,hc,hr⟩:=h2 i _ hq;rw[hi] at hc;cases hc;exact one_rep hr (List.all_eq_true.1 hp _ (List.getElem_mem hlt))
theorem ones_okc{I:Imm}{bl:Bl}{v:Value}{p:PV}(h:RepT I bl w v p)(hk:p.okc=true)(hp:p.ones=true):∀x∈v.cells.toList,x.oneCell'=true:=by
 by_cases hf:p.flat=true
 ·exact AXJ (h.flat hf) hp
 ·cases p with
  |ref id off=>obtain⟨b,_,rfl⟩:=h.AjK;intro x hx;simp[Value.cells] at hx;subst hx;rfl
  |arr id gen off len size=>obtain⟨_,_,_,_,_,_,_,_,_,_,rfl⟩:=h.AjQ;intro x hx;simp[Value.cells] at hx;subst hx;rfl
  |aptr id gen size i off=>obtain⟨_,_,_,_,rfl⟩:=h.AkI;intro x hx;simp[Value.cells] at hx;subst hx;rfl
  |mref id=>obtain⟨_,_,rfl⟩:=h.AkB;intro x hx;simp[Value.cells] at hx;subst hx;rfl
  |func f first cap=>obtain⟨_,_,rfl,_⟩:=h.AvD;intro x hx;simp[Value.cells] at hx;subst hx;rfl
  |aggr ps=>
   intro x hx;obtain⟨cs,rfl,h1,h2⟩:=h.aggr_inv;simp only[Value.cells] at hx;obtain⟨i,hi⟩:=List.mem_iff_getElem?.1 hx;rw[Array.getElem?_toList] at hi
   have hlt:i<ps.length:=by rw[←h1];exact(Array.getElem?_eq_some_iff.1 hi).1
   have hc:=h2 i _ (List.getElem?_eq_getElem hlt)
   rw[Array.getD_eq_getD_getElem?,hi] at hc;have h3:=List.all_eq_true.1 hk _ (List.getElem_mem hlt);simp only[Bool.and_eq_true] at h3;rcases hc with hc | hc
   ·exact one_rep hc h3.2
   ·cases hc':ps[i] with
    |ref id off=>rw[hc'] at hc;cases hc;rfl
    |arr id gen off len size=>rw[hc'] at hc;cases hc;rfl
    |aptr id gen size i off=>rw[hc'] at hc;cases hc;rfl
    |mref id=>rw[hc'] at hc;cases hc;rfl
    |_=>rw[hc'] at hc;cases hc
  |_=>simp[PV.okc,PV.isRef,PV.isFn] at hk;exact absurd hk hf
theorem Aw3{c x c':PV}{off:Nat}(h:upd c off x=some c'):c'.cells=AxA c.cells off x.cells∧off+x.cells.length≤c.cells.length:=by
 unfold upd at h
 split at h
 ·split at h
  ·rename_i hl;cases h;exact⟨rfl,hl⟩
  ·cases h
 ·split at h
  ·rename_i hl;cases h;exact⟨rfl,hl⟩
  ·cases h
 ·rename_i hna hna2
  split at h
  ·cases h
  ·cases h
  ·rename_i hxa hxa2
   split at h
   ·rename_i h0;cases h;subst h0;have e1:c.cells=[c]:=by cases c<;>first | rfl | exact absurd rfl (hna _) | exact absurd rfl (hna2 _)
    have e2:x.cells=[x]:=by cases x<;>first | rfl | exact absurd rfl (hxa _) | exact absurd rfl (hxa2 _)
    rw[e1,e2];exact⟨rfl,by simp⟩
   ·cases h
theorem AkG{G':Gh}{w':World}{b off:Nat}{tag:Option Nat→Tag}{ps qs:List PV}{ds:List Value}{cs:Array Value}{elem:TypeId}
  (hω:G'.ω b=some (tag none)) (hI:∀x,¬G'.I b x) (hheap:w'.heap[b]?=some (.cells (cs.toList.take off++ds++cs.toList.drop (off+ds.length)).toArray elem (0,0)))
  (hsz:cs.size=ps.length) (hl:off+qs.length≤ps.length) (hds:ds.length=qs.length)
  (hold:∀(j:Nat) (p:PV),ps[j]?=some p→(j<off∨off+qs.length≤j)→AXB G' w' b (tag (some j)) (cs.getD j undef) p)
  (hnew:∀(j:Nat) (q:PV),qs[j]?=some q→∃c,ds[j]?=some c∧AXB G' w' b (tag (some (off+j))) c q):AxR G' w' b tag (AxA ps off qs):=by
 have hcl:cs.toList.length=ps.length:=by simpa using hsz
 have e1:(cs.toList.take off).length=off:=by rw[List.length_take,hcl];omega
 have e2:(ps.take off).length=off:=by rw[List.length_take];omega
 refine⟨hω,hI,_,elem,hheap,?_,fun j p hp=>?_⟩
 ·unfold AxA;simp only[List.size_toArray,List.length_append,List.length_take,List.length_drop,hcl,hds]
 ·have hgetD:∀(k:Nat) (c:Value) (l:List Value),l[k]?=some c→(l.toArray).getD k undef=c:=by
   intro k c l h;rw[Array.getD_eq_getD_getElem?,List.getElem?_toArray,h];rfl
  unfold AxA at hp;rw[List.append_assoc] at hp ⊢;by_cases h1:j<off
  ·rw[List.getElem?_append_left (by omega),List.getElem?_take,if_pos h1] at hp
   have r1:=hold j p hp (.inl h1)
   have:(cs.toList.take off++(ds++cs.toList.drop (off+ds.length))).toArray.getD j undef=cs.getD j undef:=by
    rw[Array.getD_eq_getD_getElem?,List.getElem?_toArray,List.getElem?_append_left (by omega),List.getElem?_take,if_pos h1,Array.getElem?_toList,Array.getD_eq_getD_getElem?]
   rw[this];exact r1
  ·rw[List.getElem?_append_right (by omega),e2] at hp
   by_cases h2:j - off<qs.length
   ·rw[List.getElem?_append_left h2] at hp
    obtain⟨c,hc,r2⟩:=hnew _ p hp
    have:(cs.toList.take off++(ds++cs.toList.drop (off+ds.length))).toArray.getD j undef=c:=by
     apply hgetD;rw[List.getElem?_append_right (by omega),e1,List.getElem?_append_left (by omega)];exact hc
    rw[this];rw[show off+(j - off)=j from by omega] at r2
    exact r2
   ·rw[List.getElem?_append_right (by omega),List.getElem?_drop] at hp
    rw[show off+qs.length+(j - off - qs.length)=j from by omega] at hp
    have r1:=hold j p hp (.inr (by omega))
    have:(cs.toList.take off++(ds++cs.toList.drop (off+ds.length))).toArray.getD j undef=cs.getD j undef:=by
     rw[Array.getD_eq_getD_getElem?,List.getElem?_toArray,List.getElem?_append_right (by omega),e1,List.getElem?_append_right (by omega),List.getElem?_drop,
      show off+ds.length+(j - off - ds.length)=j from by omega,Array.getElem?_toList,Array.getD_eq_getD_getElem?]
    rw[this];exact r1
theorem Inv.boxStep{G':Gh}{w':World}{X:Tag→Prop}{T:Nat→Prop}{d b:Nat}{c':PV}(hi:Inv cx G a w A σ)(dst:Option Nat)(v:Value)(hdst:∀u,dst=some u→(cx.kd u).val=true)
  (hk:cx.kd d=.box) (hb:at' a d=.pointer (some ⟨b,0,none⟩)) (hcells:AxR G' w' b (.slot d) c'.cells) (he:Ext X G G' w w') (hbase:Base cx G' w') (hbl:G'.bl=G.bl)
  (hX:∀tg,X tg→∃t j,tg=.slot t j∧(t=d∨T t)) (hT:∀t,T t→(cx.kd t).val=true) (hl:A'.length=A.length)
  (hA:∀t p,A'.get t=some p→(t=d∧p=c')∨(t≠d∧¬T t∧dst≠some t∧A.get t=some p)∨AqW cx G' (a.put dst v) w' t p):Inv cx G' (a.put dst v) w' A' σ:=by
 have hval:∀m,(cx.kd m).val=false→dst≠some m∧¬T m:=fun m hm=>by
  refine⟨fun e=>?_,fun e=>?_⟩
  ·rw[hdst m e] at hm;cases hm
  ·rw[hT m e] at hm;cases hm
 refine hi.step X dst v he hbase hl ?_ ?_ (by rw[hbl];exact hi.len) (by rw[hbl];exact hi.abl)
 ·intro t p hp;rcases hA t p hp with⟨rfl,rfl⟩ | ⟨h1,h2,h3,h4⟩ | h
  ·refine .inr ((AqM hk).2 ⟨b,?_,hcells⟩)
   rw[AxM _ _ _ _ (hval t (by rw[hk];rfl)).1];exact hb
  ·refine .inl ⟨h4,h3,fun j hx=>?_,fun d' off e hbx=>(hval d' (by rw[hbx];rfl)).1,fun m hm=>?_⟩
   ·obtain⟨t',j',e,h⟩:=hX _ hx;cases e;rcases h with h | h
    ·exact h1 h
    ·exact h2 h
   ·obtain⟨keys,hkm⟩:=cx.ents t m hm;have:=hval m (by rw[hkm];rfl)
    refine⟨this.1,fun hx=>?_⟩
    obtain⟨t',j',e,h⟩:=hX _ hx;cases e;rcases h with h | h
    ·rw[h,hk] at hkm;cases hkm
    ·exact this.2 h
  ·exact .inr h
 ·intro id cs hc;refine .inl ⟨hc,fun j hx=>?_⟩
  obtain⟨t',j',e,_⟩:=hX _ hx;cases e
end
end Go.Abs
