/- A part of the proof: A14 A15 A16 A17 A18 A19 A20 A21 A22 A23 A24. -/
import Derived.Test.YtapgnmhobbgmiaaGreatDoorKab
import Derived.Laws.CopyRow
import Derived.Laws.Append
import Derived.Deep.AppendSrc
import Derived.Deep.Upon

set_option linter.unusedVariables false
set_option linter.unusedSimpArgs false
namespace Go.Abs
open Go.RowKit
section
variable{P:Program}{pur:FuncId→Bool}{call:Caller}{fi:FI}{cx:Cx}{G:Gh}{a:Act}{w:World}{A A':Frm}{σ σ':Sto}
def Q6(vs:List Value):List Value:=vs.flatMap fun v=>v.cells.toList
theorem flat_get{size:Nat}:∀(vs:List Value) (i j:Nat) (v:Value),(∀v∈vs,v.cells.size=size)→vs[i]?=some v→j<size→(Q6 vs)[i * size+j]?=v.cells[j]?
 |[],i,j,v,_,h,_=>by simp at h
 |u::vs,i,j,v,hall,h,hj=>by
  have hu:=hall u (AR ..);simp only[Q6,Ex];cases i with
  |zero=>
   simp at h;subst h;rw[Nat.zero_mul,Bq,Ak (by simp;omega),Ay]
  |succ i=>
   rw[Ao (by simp[hu];rw[BQ];omega)]
   have:=flat_get vs i j v (fun v hv=>hall v (AA _ hv)) (by simpa using h) hj
   rw[←this];congr 1;simp[hu,BQ];omega
theorem dm{size:Nat}:∀(vs:List Value),(∀v∈vs,v.cells.size=size)→(Q6 vs).length=vs.length * size
 |[],_=>by simp[Q6]
 |u::vs,h=>by
  have:=dm vs (fun v hv=>h v (AA _ hv))
  simp only[Q6,Ex,Af,Al] at this ⊢;rw[this];simp[h u (AR ..),BQ];omega
theorem TW{size:Nat}(f:Operand→Value):∀(parts:List (Nat×Operand)) (k:Nat) (pre rest:List Value) (cells:Array Value),PG k parts=true→pre.length=k * size→
  cells.toList=pre++rest→rest.length=parts.length * size→(∀x∈parts,(f x.2).cells.size=size)→
  ∃cells',Instr.fill (fun i=>some (i * size,size)) cells (parts.map fun x=>(x.1,f x.2))=some cells'∧cells'.toList=pre++Q6 (parts.map fun x=>f x.2)
 |[],k,pre,rest,cells,_,_,hc,hl,_=>by
  have:rest=[]:=Aw.1 (by simpa using hl)
  exact⟨cells,rfl,by rw[hc,this];simp[Q6]⟩
 |(i,x)::parts,k,pre,rest,cells,ho,hp,hc,hl,hall=>by
  simp only[PG,Ai,beq_iff_eq] at ho;obtain⟨rfl,ho⟩:=ho;have hx:=hall (i,x) (AR ..);dsimp only at hx
  have hsz:cells.size=i * size+(parts.length+1) * size:=by
   have:=congrArg List.length hc;simp only[Array.length_toList,Af,hp,hl,Al] at this;exact this
  rw[BQ] at hsz;have hrl:rest.length=parts.length * size+size:=by simpa [BQ] using hl
  have hnew:((f x).cells.zipIdx.foldl (fun(cs:Array Value) (x:Value×Nat)=>cs.setIfInBounds (i * size+x.2) x.1) cells).toList=(pre++(f x).cells.toList)++rest.drop size:=by
   rw[TS _ _ _ (by rw[hx];omega),hc,hx]
   have e1:(pre++rest).take (i * size)=pre:=by rw[←hp];simp
   have e2:(pre++rest).drop (i * size+size)=rest.drop size:=by
    rw[←hp,List.drop_append,Cf (by omega)];simp
   simp only[e1,e2]
  obtain⟨cells',h1,h2⟩:=TW f parts (i+1) (pre++(f x).cells.toList) (rest.drop size) _ ho (by simp[hp,hx,BQ]) hnew (by rw[AU];omega) (fun y hy=>hall y (AA _ hy))
  refine⟨cells',?_,by rw[h2];simp[Q6]⟩
  simp only[Bv,Instr.fill];rw[if_neg (by simp only[hx,CW,decide_eq_true_eq,ne_eq,not_true_eq_false,decide_false,Bool.false_eq_true,false_or];omega)]
  exact h1
theorem vX(hi:Inv cx G a w A σ)(hkd:∀t,cx.kd t=fi.kind t)(hnt:cx.nt=fi.nt){o:Oper}{t e:TypeId}{n:Nat}{ps:Array (Nat×Operand)}(ho:o.op=.buildSlice t n ps)
  (ht:P.underlying t=some (.slice e)) {size:Nat} {ag:Bool} (hsz:Cv P e=some (size,ag)) (hord:PG 0 ps.toList=true) (hn:ps.size=n) (hn':n≤1000) (hs0:0<size) (hs1:size≤100)
  (hz:(P.info? e).any (·.zero.isSome)=true)
  {az:List CQ} (hc:Ap fi (ps.toList.map (·.2))=some az) (hd:BC fi o.dst=true) (hrun:BU pur call { dst:=o.dst,k:=.p (.bsl size),args:=az } A σ=some (A',σ')):Gives P cx o a w A' σ':=by
 refine YT hi (Ee hkd hnt hd) hrun fun vs rs he hs=>?_
 simp only[Be] at hs
 split at hs
 case isFalse=>cases hs
 rename_i hall;cases hs;rw[Av] at hall
 have hall':∀p∈vs,p.cells.length=size∧p.flat=true:=fun p hp=>by
  have:=hall p hp;simp only[Ai,beq_iff_eq] at this;exact this
 obtain⟨hl,hrep⟩:=Ux hi hkd hc he (fun p hp=>IY (hall' p hp).2)
 have hl':ps.size=vs.length:=by simpa using hl
 have hpart:∀(i:Nat) (x:Nat×Operand) (p:PV),ps.toList[i]?=some x→vs[i]?=some p→Rep G.I w (a.eval x.2) p.Ae:=fun i x p hx hp=>
  ((hrep i x.2 p (by rw[Am,hx];rfl) hp).flat (hall' p (Au hp)).2).Ae
 have hsize:∀x∈ps.toList,(a.eval x.2).cells.size=size:=by
  intro x hx;obtain⟨i,hix⟩:=BL.1 hx;have hlt:i<vs.length:=by have:=(Ad.1 hix).1;simp at this;omega
  have hp:=Ah hlt;have:=(Gw (hpart i x _ hix hp)).1;rw[this,Ea];exact(hall' _ (Ci hlt)).1
 obtain⟨it,hit,hzs⟩:∃it,P.info? e=some it∧it.zero.isSome=true:=by
  cases h:P.info? e with
  |none=>rw[h] at hz;simp at hz
  |some it=>rw[h] at hz;exact⟨it,rfl,by simpa using hz⟩
 obtain⟨zv,hzv⟩:=Dt.1 hzs
 let zero:Array Value:=if n * size=0 then #[] else zv.cells
 let cells0:Array Value:=(Array.range (n * size)).map (zero[· % zero.size]!)
 obtain⟨cells,hfill,hcells⟩:=TW a.eval ps.toList 0 [] cells0.toList cells0 hord (by simp) (by simp) (by simp[cells0,hn]) hsize
 simp only[Bj] at hcells
 let J:Option Nat→Prop:=fun x=>∃o,x=some o∧o<n * size
 let tag:Option Tag:=o.dst.map fun d=>.slot d none
 have hext:=FN (fun _=>False) hi.base (.cells cells e) J tag
 have hlenc:cells.size=n * size:=by
  have:=congrArg List.length hcells;rw[dm _ (by intro v hv;obtain⟨x,hx,rfl⟩:=EG.1 hv;exact hsize x hx)] at this
  simpa [hn] using this
 refine⟨_,.slice (some ⟨w.heap.size,0,none⟩) n n,G.LH w.heap.size J tag,w.alloc (.cells cells e),rfl,rfl,?_,hext,E9 hi.base _ _ _,rfl,?_,?_⟩
 ·have h24:¬(n * size>2 ^ 24):=by
   have:n * size≤1000 * 100:=Nat.mul_le_mul hn' hs1;omega
  have hf':Instr.fill (fun i=>some (i * size,size)) cells0 (ps.map fun x=>(x.1,a.eval x.2)).toList=some cells:=by
   rw[Array.toList_map];exact hfill
  simp only[cells0] at hf';have hzr:(zeroValue e).run P w=.ok zv w:=by simp[zeroValue,typeInfo,hit,hzv]
  by_cases h0:n * size=0
  ·have hz0:zero=#[]:=by simp[zero,h0]
   rw[hz0] at hf';simp only[execOp,ho,Instr.buildSlice,Sem.run_bind,underlying,run_program,ht,Result.andThen_ok,Sem.run_pure,run_sizeOf hsz,if_neg h24,if_pos h0,newRow,run_newObj];rw[hf'];rfl
  ·have hz0:zero=zv.cells:=by simp only[zero,if_neg h0]
   rw[hz0] at hf';simp only[execOp,ho,Instr.buildSlice,Sem.run_bind,underlying,run_program,ht,Result.andThen_ok,Sem.run_pure,run_sizeOf hsz,if_neg h24,if_neg h0,hzr,newRow,run_newObj];rw[hf'];rfl
 ·have hlen:n=(vs.map PV.Ae).length:=by simp;omega
  have key:∀(i:Nat) (el:PV) (j:Nat) (q:PV),(vs.map PV.Ae)[i]?=some el→el.cells[j]?=some q→∃v,Rep G.I w v el∧j<size∧i<n∧v.cells.size=size∧cells[i * size+j]?=v.cells[j]?:=by
   intro i el j q hel hq;rw[Am] at hel;obtain⟨p,hp,rfl⟩:=Ac.1 hel;have hlt:i<ps.size:=by have:=(Ad.1 hp).1;omega
   have hx:ps.toList[i]?=some ps[i]:=by rw[Ay];exact AJ hlt
   have hr:=hpart i _ p hx hp
   have hjl:j<size:=by
    have:=(Ad.1 hq).1;rw[Ea,(hall' p (Au hp)).1] at this;exact this
   refine⟨_,hr,hjl,by omega,hsize _ (Au hx),?_⟩
   rw[←Ay,hcells];exact flat_get _ i j _ (by intro v hv;obtain⟨x,hx,rfl⟩:=EG.1 hv;exact hsize x hx) (by rw[Am,hx];rfl) hjl
  refine .one (.inl (.slice (fun i j=>cells.getD (i * size+j) undef) hlen (Ag _) (fun _=>rfl) ?_ ?_ ?_ ?_))
  ·intro i el hel;rw[Am] at hel;obtain⟨p,hp,rfl⟩:=Ac.1 hel;rw[Ea];exact(hall' p (Au hp)).1
  ·intro i el j q hel hq;obtain⟨v,_,hj,hin,_,_⟩:=key i el j q hel hq;refine .inr ⟨rfl,_,rfl,?_⟩
   have:(i+1) * size≤n * size:=BB _ (by omega)
   rw[BQ] at this;show 0+i * size+j<n * size;omega
  ·intro i el j q hel hq;obtain⟨v,hr,hj,hin,hvs,hce⟩:=key i el j q hel hq;show(w.alloc (.cells cells e)).cell? ⟨w.heap.size,0+i * size+j,none⟩=_;rw[Bq,PQ,hce,Aj,hce];rw[AJ (by omega)];rfl
  ·intro i el j q hel hq;obtain⟨v,hr,hj,hin,hvs,hce⟩:=key i el j q hel hq;rw[Aj,hce];have:=(Gw hr).2 j q hq;rw[Aj] at this;exact this.mono hext.I hext.same
 ·intro d hd';have hlen:n=(vs.map PV.Ae).length:=by simp;omega
  show uu _ _ _ _ _ _;refine⟨w.heap.size,0,n,cells,e,by rw[←hlen],by simp[Gh.LH,tag,hd'],?_,?_,heap_alloc_new' _ _,by rw[hlenc];omega,hs0,by omega⟩
  ·rintro(h | ⟨_,o,h,_⟩)
   ·have:=hi.base.lt _ _ h;omega
   ·cases h
  ·intro o' ho' h;rcases h with h | ⟨_,o'',h,hlt⟩
   ·have:=hi.base.lt _ _ h;omega
   ·cases h;rw[←hlen] at ho';omega
end
end Go.Abs

namespace Go.Abs
open Go.RowKit
def Gh.retag(G:Gh)(b:Nat)(tag:Tag):Gh:=⟨G.I,fun b'=>if b'=b then some tag else G.ω b',G.bl⟩
section
variable{P:Program}{pur:FuncId→Bool}{call:Caller}{fi:FI}{cx:Cx}{G:Gh}{a:Act}{w:World}{A A':Frm}{σ σ':Sto}
theorem Us(hb:Base cx G w){b:Nat}{t0 tag:Tag}(h:G.ω b=some t0):Base cx (G.retag b tag) w:=by
 refine⟨hb.keep,hb.same,hb.sub,hb.new,hb.lt,fun b' tg h'=>?_,hb.Klt,hb.grow,hb.bl,hb.os,hb.tape,hb.output⟩
 simp only[Gh.retag] at h'
 split at h'
 ·rename_i e;subst e;exact hb.own _ _ h
 ·exact hb.own _ _ h'
theorem Wj{X:Tag→Prop}{b:Nat}{t0 tag:Tag}(h:G.ω b=some t0)(hX:X t0):Ext X G (G.retag b tag) w w:=by
 refine⟨fun _ _ h=>h,Same.refl _ _,Bl.le_refl _,fun _ _ _ _=>rfl,fun b' tg h' hn=>⟨?_,rfl,fun _ h=>h⟩⟩
 have:b'≠b:=by
  intro e;subst e;rw[h] at h';cases h';exact hn hX
 simp[Gh.retag,this,h']
theorem AzP{d s:Nat}{k:PK}{az:List CQ}(h:BU pur call { dst:=some d,k:=.p k,args:=az,ex:=[s] } A σ=some (A',σ')):
  ∃vs rs,BS A az=some vs∧Be k vs=some rs∧σ'=σ∧∀p q,rs=[p,q]→A'=(A.set d p).set s q:=by
 unfold BU at h;dsimp only at h
 split at h
 ·rename_i vs hvs;simp only[sem] at h
  split at h
  ·rename_i rs σ₁ hs;obtain⟨rs',hrs,e⟩:=Ac.1 hs;cases e;refine⟨vs,rs,hvs,hrs,?_,?_⟩
   ·split at h
    ·cases h;rfl
    ·split at h<;>cases h;rfl
   ·rintro p q rfl
    simp[AOp.wr,Dm] at h;rw[←h.1]
  ·cases h
 ·cases h
theorem Inv.pG{G':Gh}{w':World}(hi:Inv cx G a w A σ){d s:Nat}(hd:d<cx.nt∧(cx.kd d).val=true)(hs:s<cx.nt∧(cx.kd s).val=true)
  (he:Ext (fun tg=>tg=.slot s none∨tg=.slot d none) G G' w w') (hb:Base cx G' w') (hbl:G'.bl=G.bl) {v:Value} {p q:PV} (hfp:p.free=true) (hfq:q.free=true)
  (hp:Bz G'.I G'.bl w' v p) (ho:d≠s→Eo G' w' (.slot d none) v p) (hq:Bz G'.I G'.bl w' (at' (a.put (some d) v) s) q) (hoq:∀tag c,Eo G' w' tag c q) :
  Inv cx G' (a.put (some d) v) w' ((A.set d (some p)).set s (some q)) σ:=by
 have hval:∀m,(cx.kd m).val=false→m≠d∧m≠s:=fun m hm=>by
  refine⟨fun e=>?_,fun e=>?_⟩
  ·rw[e,hd.2] at hm;cases hm
  ·rw[e,hs.2] at hm;cases hm
 refine hi.step _ (some d) v he hb (by simp) ?_ ?_ (by rw[hbl];exact hi.len) (by rw[hbl];exact hi.abl)
 ·intro t r hr;rw[Dk] at hr
  split at hr
  ·rename_i hc;cases hr;rw[hc.1,BZ hs.2 hfq];exact .inr ⟨hq,hoq _ _⟩
  ·rename_i hc1;have hts:t≠s:=fun e=>hc1 ⟨e,by simp;have:=hi.room;omega⟩
   rw[Dk] at hr
   split at hr
   ·rename_i hc;cases hr;rw[hc.1,BZ hd.2 hfp,FO _ _ _ (by rw[hi.size];exact hd.1)]
    exact .inr ⟨hp,ho (by rw[←hc.1];exact hts)⟩
   ·rename_i hc2;have htd:t≠d:=fun e=>hc2 ⟨e,by have:=hi.room;omega⟩
    refine .inl ⟨hr,fun e=>htd (Option.some.inj e).symm,fun j h=>?_,fun d' off e hbx=>?_,fun m hm=>?_⟩
    ·rcases h with h | h<;>cases h
     ·exact hts rfl
     ·exact htd rfl
    ·have:=hval d' (by rw[hbx];rfl)
     exact fun e'=>this.1 (Option.some.inj e').symm
    ·obtain⟨keys,hk⟩:=cx.ents t m hm;have:=hval m (by rw[hk];rfl)
     refine⟨fun e'=>this.1 (Option.some.inj e').symm,?_⟩
     rintro(h | h)<;>cases h
     ·exact this.2 rfl
     ·exact this.1 rfl
 ·intro id cs hc;exact .inl ⟨hc,fun j h=>by rcases h with h | h<;>cases h⟩
theorem Fx(hkd:∀t,cx.kd t=fi.kind t)(hnt:cx.nt=fi.nt){t:Nat}(h:Dj fi t=true):t<cx.nt∧(cx.kd t).val=true:=
 Ee hkd hnt (d:=some t) h t rfl
theorem Mo(hi:Inv cx G a w A σ){t:Nat}(hk:(cx.kd t).val=true){p:PV}(he:BS A [.slot t]=some [p])(hf:p.free=true):
  Bz G.I G.bl w (at' a t) p∧Eo G w (.slot t none) (at' a t) p:=by
 simp only[BS] at he
 split at he
 ·rename_i v vs hg hv;cases hv;cases he;exact(BZ hk hf).1 (hi.slot t _ hg)
 ·cases he
theorem bA(hb:Base cx G w){s d:Nat}{v:Value}{p:PV}(ho:Eo G w (.slot s none) v p):
  ∃G',G'.I=G.I∧G'.bl=G.bl∧Ext (fun tg=>tg=.slot s none∨tg=.slot d none) G G' w w∧Base cx G' w∧Eo G' w (.slot d none) v p:=by
 by_cases h:∃sz es,p=.slice true sz es
 ·obtain⟨sz,es,rfl⟩:=h;obtain⟨b,off,cap,cs,elem,rfl,h1,h2,h3,h4,h5,h6,h7⟩:=ho;refine⟨G.retag b (.slot d none),rfl,rfl,Wj h1 (.inl rfl),Us hb h1,?_⟩
  exact⟨b,off,cap,cs,elem,rfl,by simp[Gh.retag],h2,h3,h4,h5,h6,h7⟩
 ·exact⟨G,rfl,rfl,Ext.refl _ _ _,hb,MH (fun sz es e=>h ⟨sz,es,e⟩)⟩
theorem iR(hi:Inv cx G a w A σ)(hkd:∀t,cx.kd t=fi.kind t)(hnt:cx.nt=fi.nt){o:Oper}{s d:Nat}(ho:o.op=.move (.tmp s)∨o.op=.assign (.tmp s))(hod:o.dst=some d)
  {az:List CQ} (hc:Ap fi [.tmp s]=some az) (hd:Dj fi d=true) (hs:Dj fi s=true)
  (hrun:BU pur call { dst:=some d,k:=.p .mvo,args:=az,ex:=[s] } A σ=some (A',σ')):Gives P cx o a w A' σ':=by
 obtain⟨vs,rs,he,hsem,rfl,hA⟩:=AzP hrun;obtain⟨y,zs,rfl,hy,hz⟩:=AV hc;cases hz;obtain⟨p,qs,rfl,hp,hq⟩:=Ar he;cases hq;simp only[Be] at hsem
 split at hsem
 ·rename_i hf;cases hsem;rw[hA _ _ rfl];have hsv:=Fx hkd hnt hs;have hdv:=Fx hkd hnt hd
  have hyy:y=.slot s:=by
   simp only[F4] at hy
   split at hy<;>first | (split at hy<;>first | (cases hy;rfl) | cases hy) | cases hy
  subst hyy;obtain⟨hrep,how⟩:=Mo hi hsv.2 hp hf;obtain⟨G',e1,e2,hext,hbase,how'⟩:=bA (d:=d) hi.base how
  have hat:at' (a.put (some d) (at' a s)) s=at' a s:=by
   by_cases h:d=s
   ·subst h;exact FO _ _ _ (by rw[hi.size];exact hdv.1)
   ·exact Gq _ _ _ _ (fun e=>h (Option.some.inj e))
  refine .inl ⟨at' a s,w,?_,G',?_⟩
  ·rcases ho with ho | ho<;>simp only[execOp,ho]<;>rfl
  ·rw[hod];exact hi.pG hdv hsv hext hbase e2 hf (by rw[Da];exact hf) (by rw[e1,e2];exact hrep) (fun _=>how') (by rw[hat,e1,e2];exact hrep.Ae) (fun _ _=>Cr p)
 ·cases hsem
end
end Go.Abs

namespace Go.Abs
open Go.RowKit
section
variable{P:Program}{pur:FuncId→Bool}{call:Caller}{fi:FI}{cx:Cx}{G:Gh}{a:Act}{w:World}{A A':Frm}{σ σ':Sto}
theorem RF{I:Imm}{c:Value}{p:PV}(h:Rep I w c p)(hp:p.one=true):c.oneCell'=true:=by
 cases h<;>first | rfl | simp[PV.one] at hp
def I7(I:Imm)(w:World)(size:Nat)(cs:List Value)(es:List PV):Prop:=
 cs.length=es.length * size∧(∀(i:Nat) (e:PV),es[i]?=some e→e.cells.length=size)∧
 ∀(i:Nat) (e:PV) (j:Nat) (p:PV),es[i]?=some e→e.cells[j]?=some p→∃c,cs[i * size+j]?=some c∧Rep I w c p
theorem I7.mono{I I':Imm}{w w':World}{size:Nat}{cs:List Value}{es:List PV}(h:I7 I w size cs es)(hI:∀b x,I b x→I' b x)(hs:Same I w w'):I7 I' w' size cs es:=
 ⟨h.1,h.2.1,fun i e j p he hp=>let ⟨c,h1,h2⟩:=h.2.2 i e j p he hp;⟨c,h1,h2.mono hI hs⟩⟩
theorem I7.nil(I:Imm)(w:World)(size:Nat):I7 I w size [] []:=⟨by simp,fun i e h=>by simp at h,fun i e j p h=>by simp at h⟩
theorem I7.append{I:Imm}{size:Nat}{cs ds:List Value}{es fs:List PV}(h:I7 I w size cs es)(k:I7 I w size ds fs):I7 I w size (cs++ds) (es++fs):=by
 refine⟨by simp[h.1,k.1,Ce],fun i e he=>?_,fun i e j p he hp=>?_⟩
 ·by_cases hi:i<es.length
  ·rw[Ak hi] at he;exact h.2.1 i e he
  ·rw[Ao (by omega)] at he;exact k.2.1 _ e he
 ·by_cases hi:i<es.length
  ·rw[Ak hi] at he;obtain⟨c,h1,h2⟩:=h.2.2 i e j p he hp;refine⟨c,?_,h2⟩
   rw[Ak (Ad.1 h1).1];exact h1
  ·rw[Ao (by omega)] at he
   obtain⟨c,h1,h2⟩:=k.2.2 _ e j p he hp;refine⟨c,?_,h2⟩
   have hge:es.length * size≤i * size:=BB _ (by omega)
   rw[Ao (by rw[h.1];omega),h.1]
   rw[Nat.sub_mul] at h1;rw[show i * size+j - es.length * size=i * size - es.length * size+j from by omega]
   exact h1
theorem LC{I:Imm}{ad:Addr}{size:Nat}{es:List PV}{cv:Nat→Nat→Value}(hs0:0<size)(hspot:es≠[]→ad.spot=none)
  (hsz:∀(i:Nat) (e:PV),es[i]?=some e→e.cells.length=size)
  (hc:∀(i:Nat) (e:PV) (j:Nat) (p:PV),es[i]?=some e→e.cells[j]?=some p→w.cell? ⟨ad.block,ad.off+i * size+j,none⟩=some (cv i j))
  (hr:∀(i:Nat) (e:PV) (j:Nat) (p:PV),es[i]?=some e→e.cells[j]?=some p→Rep I w (cv i j) p) :
  ∃cs:List Value,I7 I w size cs es∧(∀(j:Nat) (v:Value),cs[j]?=some v→w.cell? (ad.add j)=some v)∧∀(i:Nat) (j:Nat),i<es.length→j<size→cs[i * size+j]?=some (cv i j):=by
 have hget:∀k,k<es.length * size→((List.range (es.length * size)).map fun k=>cv (k / size) (k % size))[k]?=some (cv (k / size) (k % size)):=by
  intro k hk;rw[Am,Fp hk];rfl
 have hlt:∀i j,i<es.length→j<size→i * size+j<es.length * size:=by
  intro i j hi hj;have:(i+1) * size≤es.length * size:=BB _ (by omega)
  rw[BQ] at this;omega
 have hdm:∀i j,j<size→(i * size+j) / size=i∧(i * size+j) % size=j:=by
  intro i j hj;constructor
  ·rw[Ef,Nat.mul_add_div hs0,Nat.div_eq_of_lt hj];omega
  ·rw[Ef,Nat.mul_add_mod,Nat.mod_eq_of_lt hj]
 refine⟨(List.range (es.length * size)).map fun k=>cv (k / size) (k % size),⟨by simp,hsz,fun i e j p he hp=>?_⟩,fun k v hk=>?_,fun i j hi hj=>?_⟩
 ·have hi:=(Ad.1 he).1;have hj:j<size:=by have:=(Ad.1 hp).1;rw[hsz i e he] at this;exact this
  refine⟨cv i j,?_,hr i e j p he hp⟩
  rw[hget _ (hlt i j hi hj),(hdm i j hj).1,(hdm i j hj).2]
 ·have hkl:k<es.length * size:=by have:=(Ad.1 hk).1;simpa using this
  rw[hget k hkl] at hk;cases hk;have hi:k / size<es.length:=(EL hs0).2 hkl;have hj:k % size<size:=Nat.mod_lt _ hs0;have hne:es≠[]:=by intro h;subst h;simp at hi
  have he:=Ah hi;have hcl:k % size<(es[k / size]).cells.length:=by rw[hsz _ _ he];exact hj
  have hp:=Ah hcl;have:=hc _ _ _ _ he hp;have e1:k / size * size+k % size=k:=by rw[Ef];exact Nat.div_add_mod k size
  rw[show ad.off+k / size * size+k % size=ad.off+k from by omega] at this
  have had:ad.add k=⟨ad.block,ad.off+k,none⟩:=by
   have hsp:=hspot hne;cases ad;dsimp only at hsp;subst hsp;exact Fh ..
  rw[had];exact this
 ·rw[hget _ (hlt i j hi hj),(hdm i j hj).1,(hdm i j hj).2]
theorem Si{size:Nat}(hs0:0<size){xT:TypeId}(hxT:(∃e',P.underlying xT=some (.slice e'))∨P.underlying xT=some .string){v:Value}{x:PV}{bl:Bl}(hr:Bz G.I bl w v x){xs:List PV}(hx:Ro size x=some xs)
  (hones:xs.all PV.ones=true):∃news,Src P size xT v xs.length news w∧I7 G.I w size news xs:=by
 rw[Av] at hones;cases x with
 |slice own sz es=>
  simp only[Ro] at hx
  split at hx
  ·rename_i hsz';subst hsz';cases hx;obtain⟨ad,len,cap,cv,rfl,rfl,e2,e3,e4,e5,e6,e7⟩:=hr.FB;obtain⟨cs,hrow,hcell,hcv⟩:=LC (I:=G.I) hs0 e3 e4 e6 e7;refine⟨cs,⟨hxT,fun _=>rfl,run_firstCells_some w sz _ ad _ _ cs hrow.1 hcell,run_firstCells_some w.drew sz _ ad _ _ cs hrow.1 hcell,hrow.1,fun u hu=>?_⟩,hrow⟩
   obtain⟨k,hk⟩:=BL.1 hu;have hkl:k<xs.length * sz:=by have:=(Ad.1 hk).1;rw[hrow.1] at this;exact this
   have hi:k / sz<xs.length:=(EL hs0).2 hkl;have hj:k % sz<sz:=Nat.mod_lt _ hs0;have he:=Ah hi;have hcl:k % sz<(xs[k / sz]).cells.length:=by rw[e4 _ _ he];exact hj
   have hp:=Ah hcl;have hrep:=e7 _ _ _ _ he hp;have:=hcv (k / sz) (k % sz) hi hj;rw[show k / sz * sz+k % sz=k from by rw[Ef];exact Nat.div_add_mod k sz,hk] at this
   cases this;refine RF hrep ?_
   exact Av.1 (hones _ (Ci hi)) _ (Ci hcl)
  ·cases hx
 |nils=>
  simp only[Ro] at hx;cases hx;have:=hr.FK;subst this;refine⟨[],⟨hxT,fun _=>rfl,run_firstCells_none w size 0 0 0,run_firstCells_none w.drew size 0 0 0,by simp,fun _ h=>by cases h⟩,I7.nil ..⟩
 |empt=>
  simp only[Ro] at hx;cases hx;obtain⟨ad,rfl⟩:=hr.Ju;exact⟨[],⟨hxT,fun _=>rfl,run_firstCells_some w size 0 ad 0 0 [] (by simp) (fun j u h=>by simp at h),run_firstCells_some w.drew size 0 ad 0 0 [] (by simp) (fun j u h=>by simp at h),by simp,fun _ h=>by cases h⟩,I7.nil ..⟩
 |str l=>
  simp only[Ro] at hx
  split at hx
  ·rename_i h1;subst h1;cases hx;obtain⟨s,rfl,rfl⟩:=hr.EU
   refine⟨byteCells s,⟨hxT,fun _=>by rw[Aq,←Lib.size_eq];rfl,by rw[Aq,←Lib.size_eq];exact firstCells_string s w,by rw[Aq,←Lib.size_eq];exact firstCells_string s w.drew,
    by rw[byteCells_length,FR,Aq];exact Lib.size_eq s,fun u hu=>by obtain⟨_,_,rfl⟩:=EG.1 hu;rfl⟩,?_⟩
   refine⟨by rw[byteCells_length,FR,Aq];exact Lib.size_eq s,fun i e he=>?_,fun i e j p he hp=>?_⟩
   ·rw[Am] at he;obtain⟨b,_,rfl⟩:=Ac.1 he;rfl
   ·rw[Am] at he;obtain⟨b,hb,rfl⟩:=Ac.1 he;cases j with
    |zero=>
     simp[PV.cells] at hp;subst hp;exact⟨.int .u8 b.toNat,by rw[byteCells,FR,Nat.add_zero,Am,hb];rfl,.int _ _⟩
    |succ j=>simp[PV.cells] at hp
  ·cases hx
 |_=>simp[Ro] at hx
end
end Go.Abs

namespace Go.Abs
open Go.RowKit
section
variable{P:Program}{pur:FuncId→Bool}{call:Caller}{fi:FI}{cx:Cx}{G:Gh}{a:Act}{w:World}{A A':Frm}{σ σ':Sto}
theorem Iq(b:Nat)(t:TypeId)(fr:Nat×Nat):∀(vs:List Value) (o:Nat) (w:World) (cur:Array Value),w.heap[b]?=some (.cells cur t fr)→
  ∃cur':Array Value,cur'.size=cur.size∧(w.setCells b o vs).heap[b]?=some (.cells cur' t fr)
 |[],_,_,cur,h=>⟨cur,rfl,h⟩
 |v::r,o,w,cur,h=>by
  have h1:(w.setCell ⟨b,o,none⟩ v).heap[b]?=some (.cells (cur.setIfInBounds o v) t fr):=by
   simp only[World.setCell,Cz,if_true,h];rfl
  obtain⟨cur',e,h2⟩:=Iq b t fr r (o+1) _ _ h1;exact⟨cur',by simpa using e,h2⟩
theorem En(b:Nat):∀(vs:List Value) (o:Nat) (w:World) (k:Nat),k≠b→(w.setCells b o vs).heap[k]?=w.heap[k]?
 |[],_,_,_,_=>rfl
 |v::r,o,w,k,h=>by
  rw[World.setCells,En b r _ _ k h];simp only[World.setCell,Cz];rw[if_neg (fun e=>h e.symm)]
theorem size_setCells(b:Nat):∀(vs:List Value) (o:Nat) (w:World),(w.setCells b o vs).heap.size=w.heap.size
 |[],_,_=>rfl
 |v::r,o,w=>by rw[World.setCells,size_setCells b r];simp[World.setCell]
theorem KP(b:Nat):∀(vs:List Value) (o:Nat) (w:World),(w.setCells b o vs).tape=w.tape
 |[],_,_=>rfl
 |v::r,o,w=>by rw[World.setCells,KP b r];rfl
theorem Ou{I:Imm}{w':World}{b off size n cap:Nat}{own:Bool}{cs:List Value}{es:List PV}(hn:n=es.length)(hcap:n≤cap)(hrow:I7 I w' size cs es)
  (hI:∀k,k<cs.length→I b (some (off+k))) (hc:∀k (v:Value),cs[k]?=some v→w'.cell? ⟨b,off+k,none⟩=some v):Rep I w' (.slice (some ⟨b,off,none⟩) n cap) (.slice own size es):=by
 refine .slice (fun i j=>cs.getD (i * size+j) undef) hn hcap (fun _=>rfl) hrow.2.1 (fun i e j p he hp=>?_) (fun i e j p he hp=>?_) (fun i e j p he hp=>?_)
 all_goals obtain⟨c,h1,h2⟩:=hrow.2.2 i e j p he hp
 ·have:=hI _ (Ad.1 h1).1;rw[←Dq] at this;exact this
 ·have:=hc _ _ h1;rw[←Dq] at this;rw[AC,h1];exact this
 ·rw[AC,h1];exact h2
theorem Ke{need old bytes:Nat}(h:old<need)(hn:need≤Bn)(hb:bytes≤4096):Builtin.nextslicecap need old * bytes≤281474976710656:=by
 have h1:=nextslicecap_le h;unfold Bn at hn;have:Builtin.nextslicecap need old * bytes≤(2 * 4294967296) * 4096:=Nat.mul_le_mul (by omega) hb
 omega
theorem grownCap_ge(w:World)(need old:Nat)(e:TypeId):need≤grownCap w need old e:=by
 simp only[grownCap,Question.cut];omega
theorem iX(hi:Inv cx G a w A σ)(hkd:∀t,cx.kd t=fi.kind t)(hnt:cx.nt=fi.nt){o:Oper}{c:Call}(ho:o.op=.call c)(hb:c.callee=.builtin .append)
  {sT xT e:TypeId} {u d:Nat} {y:Operand} (hargs:c.args=#[.tmp u,y]) (htys:c.argTypes=#[sT,xT]) (hod:o.dst=some d)
  (hsT:P.underlying sT=some (.slice e)) (hxT:(∃e',P.underlying xT=some (.slice e'))∨P.underlying xT=some .string) {it:TypeInfo} (hit:P.info? e=some it)
  (hs0:0<it.size) (hby:it.bytes≤4096) (hz:(it.zero.map (·.cells.size))=some it.size)
  {az:List CQ} (hc:Ap fi [.tmp u,y]=some az) (hd:Dj fi d=true) (hu:Dj fi u=true) (hne:d≠u)
  (hrun:BU pur call { dst:=some d,k:=.p (.app it.size),args:=az,ex:=[u] } A σ=some (A',σ')):Gives P cx o a w A' σ':=by
 obtain⟨vs,rs,he,hsem,rfl,hA⟩:=AzP hrun;obtain⟨y1,zs,rfl,hy1,hz1⟩:=AV hc;obtain⟨y2,zs,rfl,hy2,hz2⟩:=AV hz1;cases hz2;obtain⟨s,qs,rfl,hs,hq⟩:=Ar he;obtain⟨x,qs,rfl,hx,hq⟩:=Ar hq;cases hq;have huv:=Fx hkd hnt hu;have hdv:=Fx hkd hnt hd
 have hyy:y1=.slot u:=by
  simp only[F4] at hy1
  split at hy1<;>first | (split at hy1<;>first | (cases hy1;rfl) | cases hy1) | cases hy1
 subst hyy;obtain⟨z,hz',hzs⟩:=Ac.1 hz;simp only[Be,yO] at hsem
 split at hsem
 case h_2=>cases hsem
 rename_i es xs hes hxs;have hsfree:s.free=true:=by cases s<;>first | rfl | simp[Rp] at hes
 have hxfree:x.free=true:=by cases x<;>first | rfl | simp[Ro] at hxs
 obtain⟨hsrep,hsown⟩:=Mo hi huv.2 hs hsfree;have hxrep:=Bp hi hkd hy2 hx hxfree;obtain⟨consts,hrun'⟩:=FJ (P:=P) (w:=w) (a:=a) ho hb;rw[hargs,htys] at hrun';have hat:∀v,d≠u→at' (a.put (some d) v) u=at' a u:=fun v h=>Gq _ _ _ _ (fun e=>h (Option.some.inj e))
 have hev:(#[Operand.tmp u,y].map a.eval)=#[at' a u,a.eval y]:=by simp[Act.eval,at']
 rw[hev] at hrun'
 have hfin:∀{v:Value} {w':World},(Builtin.append_ #[sT,xT] o.type #[at' a u,a.eval y]).run P w=.ok v w'→(execOp a.eval o).run P w=.ok (.value v) w':=by
  intro v w' h;rw[hrun'];simp only[builtin,Sem.run_bind,h,Result.andThen_ok,Sem.run_pure]
 split at hsem
 ·
  rename_i hemp;have hxe:xs=[]:=DX.1 hemp;subst hxe;cases hsem;rw[hA _ _ rfl];obtain⟨news,hsrc,hrow⟩:=Si (P:=P) (G:=G) hs0 hxT hxrep hxs (by rfl)
  have hn0:news=[]:=Aw.1 (by rw[hsrc.newsLen];simp)
  subst hn0
  have hrun0:(Builtin.append_ #[sT,xT] o.type #[at' a u,a.eval y]).run P w=.ok (at' a u) w:=by
   cases s with
   |slice own sz es'=>
    cases own with
    |false=>simp[Rp] at hes
    |true=>
     obtain⟨b,off,cap,cs,elem,ev,_,_,_,_,_,_,hle⟩:=hsown;rw[ev];exact run_append_room_src w sT xT o.type e it hsT hit b off _ cap _ _ [] hsrc (by simpa using hle) (by simp) (by simp)
   |nils=>
    have ev:=hsrep.FK;rw[ev];have hc0:=hsrc.cells;have hl0:=hsrc.len w;simp only[Bo] at hc0 hl0;rcases hxT with⟨e',hk⟩ | hk<;>simp[Builtin.append_,run_underlying hsT,run_underlying hk,sizeOf,typeInfo,hit,hl0,hc0]
   |_=>simp[Rp] at hes
  obtain⟨G',e1,e2,hext,hbase,how'⟩:=bA (d:=d) hi.base hsown
  have hatu:at' (a.put (some d) (at' a u)) u=at' a u:=by
   by_cases h:d=u
   ·subst h;exact FO _ _ _ (by rw[hi.size];exact hdv.1)
   ·exact hat _ h
  refine .inl ⟨at' a u,w,hfin hrun0,G',?_⟩
  rw[hod];exact hi.pG hdv huv hext hbase e2 hsfree (by rw[Da];exact hsfree) (by rw[e1,e2];exact hsrep) (fun _=>how') (by rw[hatu,e1,e2];exact hsrep.Ae) (fun _ _=>Cr s)
 ·rename_i hemp
  split at hsem
  case isFalse=>cases hsem
  rename_i hcond;obtain⟨hmax,hones⟩:=hcond;cases hsem;rw[hA _ _ rfl];obtain⟨news,hsrc,hrow⟩:=Si (P:=P) (G:=G) hs0 hxT hxrep hxs hones
  have hxlen:0<xs.length:=by
   cases xs with
   |nil=>simp at hemp
   |cons _ _=>simp
  have grow:∀(base:Option Addr) (sCap:Nat) (olds:List Value),at' a u=.slice base es.length sCap→sCap<es.length+xs.length→I7 G.I w it.size olds es→
    (Builtin.firstCells it.size es.length (.slice base es.length sCap)).run P w.drew=.ok olds.toArray w.drew→
    Gives P cx o a w ((A.set d (some (.slice true it.size (es++xs)))).set u (some s.Ae)) σ':=by
   intro base sCap olds ev hlt holds hfc;have hr:=run_append_grow_src w sT xT o.type e it z hsT hit hz' base es.length sCap olds hfc (a.eval y) xs.length news hsrc hlt (by unfold Bn at hmax;omega) (Ke hlt hmax hby)
   rw[←ev] at hr
   let J:Option Nat→Prop:=fun x=>∃o,x=some o∧o<(es.length+xs.length) * it.size
   let cells:Array Value:=(olds++news).toArray++Builtin.zeroCells z.cells (grownCap w (es.length+xs.length) sCap e - (es.length+xs.length))
   have hext0:=(Ki (G:=G) (w:=w) (fun tg=>tg=.slot u none∨tg=.slot d none)).trans (FN _ (Gy hi.base) (.cells cells e) J (some (.slot d none)))
   have hbase0:=E9 (Gy hi.base) (.cells cells e) J (some (.slot d none));have hrow2:=(holds.append hrow).mono hext0.I hext0.same;have hlen2:(olds++news).length=(es.length+xs.length) * it.size:=by rw[Af,holds.1,hrow.1,Ce]
   refine .inl ⟨_,_,hfin hr,G.LH w.heap.size J (some (.slot d none)),?_⟩
   rw[hod]
   refine hi.pG hdv huv hext0 hbase0 rfl rfl (by rw[Da];exact hsfree) (.one (.inl (Ou (by simp) (grownCap_ge ..) hrow2 (fun k hk=>.inr ⟨rfl,_,rfl,by rw[Bq];rw[hlen2] at hk;exact hk⟩) (fun k v hk=>?_)))) (fun _=>?_)
    (by rw[hat _ hne];exact(hsrep.mono hext0.I hext0.same hext0.bl).Ae) (fun _ _=>Cr s)
   ·rw[Bq];have:=PQ w.drew cells e (0,0) k;refine this.trans ?_
    have hlt':=(Ad.1 hk).1;simp only[cells];rw[DC (by simpa using hlt')]
    simpa using hk
   ·refine⟨w.heap.size,0,grownCap w (es.length+xs.length) sCap e,cells,e,by rw[Af],by simp[Gh.LH],?_,?_,heap_alloc_new' _ _,?_,hs0,by rw[Af];exact grownCap_ge ..⟩
    ·rintro(h | ⟨_,o,h,_⟩)
     ·have:=hi.base.lt _ _ h;omega
     ·cases h
    ·intro o' ho' h;rcases h with h | ⟨_,o'',h,hlt⟩
     ·have:=hi.base.lt _ _ h;omega
     ·cases h;rw[Af] at ho';omega
    ·have hge:=grownCap_ge w (es.length+xs.length) sCap e;simp only[cells,ET,BX,hlen2,Builtin.zeroCells,Array.size_map,Fg,hzs];rw[←Ce];have:es.length+xs.length+(grownCap w (es.length+xs.length) sCap e - (es.length+xs.length))=grownCap w (es.length+xs.length) sCap e:=by omega
     rw[this];omega
  cases s with
  |slice own sz es'=>
   cases own with
   |false=>simp[Rp] at hes
   |true=>
    simp only[Rp] at hes
    split at hes
    case isFalse=>cases hes
    rename_i hsz';subst hsz';cases hes;obtain⟨b,off,cap,cs,elem,ev,hω,hIn,hIt,hheap,hcapsz,_,hle⟩:=hsown;obtain⟨ad,len,cap',cv,ev',e1,e2,e3,e4,e5,e6,e7⟩:=hsrep.FB;rw[ev] at ev';cases ev';by_cases hfit:es.length+xs.length≤cap
    ·
     have hnlen:news.length=xs.length * it.size:=hsrc.newsLen;have hmul:(es.length+xs.length) * it.size≤cap * it.size:=BB _ hfit;rw[Ce] at hmul
     have hin:∀j,j<news.length→(w.cell? ⟨b,off+es.length * it.size+j,none⟩).isSome=true:=by
      intro j hj;simp only[World.cell?,hheap];have:off+es.length * it.size+j<cs.size:=by omega
      simp[this]
     have hr:=run_append_room_src w sT xT o.type e it hsT hit b off es.length cap (a.eval y) xs.length news hsrc hfit hin (fun j hj=>by simp[World.frozen?,hheap])
     rw[←ev] at hr;obtain⟨olds,holdrow,holdcell,_⟩:=LC (I:=G.I) hs0 (fun _=>rfl) e4 e6 e7
     let w':=w.setCells b (off+es.length * it.size) news
     let G':Gh:=⟨fun b' x=>G.I b' x∨(b'=b∧∃o,x=some o∧off+es.length * it.size≤o∧o<off+(es.length+xs.length) * it.size),fun b'=>if b'=b then some (.slot d none) else G.ω b',G.bl⟩
     have hsame:Same G.I w w':=by
      refine⟨fun b' o' h=>?_,fun b' h=>?_⟩
      ·refine World.cell?_setCells_out b news _ w _ (fun hb' _=>.inl ?_)
       dsimp only at hb' ⊢;subst hb';rcases Bc o' (off+es.length * it.size) with h' | h'
       ·exact h'
       ·exact absurd h (hIt o' h')
      ·refine En b _ _ _ _ (fun e=>?_)
       subst e;exact hIn h
     have hext:Ext (fun tg=>tg=.slot u none∨tg=.slot d none) G G' w w':=by
      refine⟨fun _ _ h=>.inl h,hsame,Bl.le_refl _,fun _ _ _ _=>rfl,fun b' tg h hX=>?_⟩
      have hbb:b'≠b:=by
       intro e;subst e;rw[hω] at h;cases h;exact hX (.inl rfl)
      refine⟨by simp[G',hbb,h],En b _ _ _ _ hbb,fun x hx=>?_⟩
      rcases hx with hx | ⟨e,_⟩
      ·exact hx
      ·exact absurd e hbb
     have hnK:=(hi.base.own b _ hω).2
     have hbase:Base cx G' w':=by
      have hb0:=hi.base;refine⟨fun b' hK=>?_,hb0.same.trans hsame hb0.sub,fun b' x h=>.inl (hb0.sub b' x h),fun b' x h=>?_,fun b' x h=>?_,fun b' tg h=>?_,hb0.Klt,by rw[size_setCells];exact hb0.grow,hb0.bl,?_,by rw[KP];exact hb0.tape,?_⟩
      ·rw[En b _ _ _ _ (fun e=>hnK (e▸hK))];exact hb0.keep b' hK
      ·rcases h with h | ⟨rfl,_⟩
       ·exact hb0.new b' x h
       ·exact .inr hnK
      ·rw[size_setCells];rcases h with h | ⟨rfl,_⟩
       ·exact hb0.lt b' x h
       ·exact(hb0.own _ _ hω).1
      ·rw[size_setCells];simp only[G'] at h
       split at h
       ·rename_i e;subst e;exact hb0.own _ _ hω
       ·exact hb0.own _ _ h
      ·rw[World.os_setCells];exact hb0.os
      ·rw[World.output_setCells];exact hb0.output
     have hrow2:I7 G'.I w' it.size (olds++news) (es++xs):=(holdrow.append hrow).mono hext.I hext.same;have hlen2:(olds++news).length=(es.length+xs.length) * it.size:=by rw[Af,holdrow.1,hrow.1,Ce]
     obtain⟨cur',hcur1,hcur2⟩:=Iq b elem (0,0) news (off+es.length * it.size) w cs hheap;refine .inl ⟨_,w',hfin hr,G',?_⟩
     rw[hod]
     refine hi.pG hdv huv hext hbase rfl rfl rfl (.one (.inl (Ou (by simp) (by simpa using hfit) hrow2 (fun k hk=>?_) (fun k v hk=>?_)))) (fun _=>?_)
      (by rw[hat _ hne];exact(hsrep.mono hext.I hext.same hext.bl).Ae) (fun _ _=>Cr _)
     ·rw[hlen2] at hk;by_cases hko:k<es.length * it.size
      ·refine .inl ?_
       have hi':k / it.size<es.length:=(EL hs0).2 hko;have hj':k % it.size<it.size:=Nat.mod_lt _ hs0;have he':=Ah hi';have hcl:k % it.size<(es[k / it.size]).cells.length:=by rw[e4 _ _ he'];exact hj'
       have:=e5 _ _ _ _ he' (Ah hcl);dsimp only at this;rw[show off+k / it.size * it.size+k % it.size=off+k from by have:=Nat.div_add_mod k it.size;rw[Ef] at this;omega] at this
       exact this
      ·exact .inr ⟨rfl,_,rfl,by omega,by omega⟩
     ·have hkl:=(Ad.1 hk).1;by_cases hko:k<olds.length
      ·rw[Ak hko] at hk;have h0:=holdcell k v hk;rw[Fh] at h0;have:w'.cell? ⟨b,off+k,none⟩=w.cell? ⟨b,off+k,none⟩:=World.cell?_setCells_out b news _ w _ (fun _ _=>.inl (by dsimp only;rw[holdrow.1] at hko;omega))
       rw[this];exact h0
      ·rw[Ao (by omega),holdrow.1] at hk
       have hkn:k - es.length * it.size<news.length:=(Ad.1 hk).1;have h0:=World.cell?_setCells_in b news (off+es.length * it.size) w hin _ hkn
       rw[holdrow.1] at hko;rw[show off+es.length * it.size+(k - es.length * it.size)=off+k from by omega] at h0
       rw[h0,←Ah hkn];exact hk
     ·refine⟨b,off,cap,cur',elem,by rw[Af],by simp[G'],?_,?_,hcur2,by omega,hs0,by rw[Af];exact hfit⟩
      ·rintro(h | ⟨_,o',h,_⟩)
       ·exact hIn h
       ·cases h
      ·intro o' ho' h;rw[Af,Ce] at ho';rcases h with h | ⟨_,o'',h,h1,h2⟩
       ·exact hIt o' (by omega) h
       ·cases h;rw[Ce] at h2;omega
    ·obtain⟨olds,holdrow,holdcell,_⟩:=LC (I:=G.I) hs0 (fun _=>rfl) e4 e6 e7
     exact grow _ cap olds ev (by omega) holdrow (run_firstCells_some w.drew it.size _ _ _ _ olds holdrow.1 holdcell)
  |nils=>
   simp only[Rp] at hes;cases hes;exact grow none 0 [] hsrep.FK (by simpa using hxlen) (I7.nil ..) (run_firstCells_none w.drew it.size 0 0 0)
  |_=>simp[Rp] at hes
end
end Go.Abs

namespace Go.Abs
open Go.RowKit
section
variable{P:Program}{pur:FuncId→Bool}{call:Caller}{fi:FI}{cx:Cx}{G:Gh}{a:Act}{w:World}{A A':Frm}{σ σ':Sto}
theorem DR{t:Nat}{v:PV}(hk:cx.kd t=.box):Eg cx G a w t v↔∃b,at' a t=.pointer (some ⟨b,0,none⟩)∧F5 G w b (.slot t) v.cells:=by
 unfold Eg;rw[hk]
theorem ME(A:Frm):∀(ts:List Nat) (t:Nat) (p:PV),Frm.get (Dm A ts (ts.map fun _=>none)) t=some p→t∉ts∧A.get t=some p:=by
 intro ts
 induction ts generalizing A with
 |nil=>intro t p h;exact⟨by simp,h⟩
 |cons s ts ih=>
  intro t p h;simp only[Bv,Dm] at h;obtain⟨h1,h2⟩:=ih (A.set s none) t p h;rw[Dk] at h2
  split at h2
  ·cases h2
  ·rename_i hc;refine⟨?_,h2⟩
   intro hm;rcases AY.1 hm with rfl | hm
   ·by_cases hl:t<A.length
    ·exact hc ⟨rfl,hl⟩
    ·unfold Frm.get at h2;rw[BD (by omega)] at h2
     cases h2
   ·exact h1 hm
theorem Eh(A:Frm):∀(ts:List Nat) (vs:List (Option PV)),(Dm A ts vs).length=A.length
 |[],vs=>by cases vs<;>rfl
 |t::ts,[]=>rfl
 |t::ts,v::vs=>by rw[Dm,Eh (A.set t v) ts vs];simp
theorem ic{t d:Nat}(h:fi.alias t=some d):t∈fi.ptrs d:=by
 unfold FI.alias at h;obtain⟨x,hx,rfl⟩:=Ac.1 h;have h1:=List.find?_some hx
 have h2:=List.mem_of_find?_eq_some hx
 simp only[beq_iff_eq] at h1;subst h1;exact EG.2 ⟨x,Ck.2 ⟨h2,by simp⟩,rfl⟩
theorem Ga{p q:PV}{j:Nat}(h:p.Ae.cells[j]?=some q):∀(G:Gh) (w:World) (tag:Tag) (c:Value),Eo G w tag c q:=by
 intro G w tag c;cases p with
 |agg cs=>
  simp only[PV.Ae,PV.cells,Am] at h;obtain⟨r,_,rfl⟩:=Ac.1 h;exact UH r
 |aggr cs=>
  simp only[PV.Ae,PV.cells,Am] at h;obtain⟨r,_,rfl⟩:=Ac.1 h;exact UH r
 |slice own sz es=>
  cases j with
  |zero=>simp[PV.Ae,PV.cells] at h;subst h;trivial
  |succ j=>simp[PV.Ae,PV.cells] at h
 |_=>
  cases j with
  |zero=>simp[PV.Ae,PV.cells] at h;subst h;trivial
  |succ j=>simp[PV.Ae,PV.cells] at h
theorem SB{I:Imm}{v:Value}{p:PV}(h:Rep I w v p):p.free=true:=by cases h<;>rfl
theorem Bz.free{I:Imm}{bl:Bl}{v:Value}{p:PV}(h:Bz I bl w v p):p.free=true:=by
 cases h with
 |one h=>
  rcases h with h | h
  ·exact SB h
  ·cases h<;>rfl
 |func _ _ _ _=>rfl
 |tuple _ _=>rfl
 |aggr _ _=>rfl
def Ls(I:Imm)(bl:Bl)(w:World)(cs:List Value)(ps:List PV):Prop:=cs.length=ps.length∧∀(i:Nat) (p:PV),ps[i]?=some p→∃c,cs[i]?=some c∧Bz I bl w c p
theorem Ls.AwG{I:Imm}{bl:Bl}{cs:List Value}{ps:List PV}(h:Mh I w cs ps):Ls I bl w cs ps:=
 ⟨h.1,fun i p hp=>by obtain⟨c,h1,h2⟩:=h.2 i p hp;exact⟨c,h1,.one (.inl h2)⟩⟩
theorem Lb{p:PV}(h:p.okc=true):p.free=true:=by
 cases p<;>first | rfl | simp[PV.okc,PV.flat,PV.Gi,PV.yo] at h
theorem mg(c:PV):((c.Cc.flat||c.Cc.Gi)&&c.Cc.one)=((c.flat||c.Gi)&&c.one):=by cases c<;>rfl
theorem Uk:∀cs:List PV,(cs.map PV.Cc).all (fun c=>(c.flat||c.Gi)&&c.one)=cs.all (fun c=>(c.flat||c.Gi)&&c.one)
 |[]=>rfl
 |c::cs=>by rw[Bv,Dr,Dr,mg,Uk cs]
theorem Je(p:PV):p.Ae.okc=p.okc:=by
 cases p with
 |aggr cs=>exact Uk cs
 |_=>rfl
theorem Ls.xO{I:Imm}{bl:Bl}{v:Value}{ps:List PV}(h:Bz I bl w v (.aggr ps)):Ls I bl w v.cells.toList ps:=by
 obtain⟨cs,rfl,h1,h2⟩:=h.UD;refine⟨by simpa [Value.cells] using h1,fun i p hp=>?_⟩
 have hlt:i<cs.size:=by rw[h1];exact(Ad.1 hp).1
 have:=h2 i p hp;refine⟨cs[i],by simp[Value.cells,hlt],?_⟩
 rw[Aj,AJ hlt] at this;exact .one this
theorem lh{I:Imm}{bl:Bl}{v:Value}{p:PV}(h:Bz I bl w v p)(hk:p.okc=true)(hn:p.isAgg=false∨p.flat=true):Rep I w v p∨(p.cells=[p]∧v.cells=#[v]∧p.Ae=p):=by
 by_cases hf:p.flat=true
 ·exact .inl (h.flat hf)
 ·refine .inr ?_
  cases p with
  |ref id off=>obtain⟨b,_,rfl⟩:=h.Jm;exact⟨rfl,rfl,rfl⟩
  |arr id gen off len size=>obtain⟨_,_,_,_,_,_,_,_,_,_,rfl⟩:=h.Jn;exact⟨rfl,rfl,rfl⟩
  |aptr id gen size i off=>obtain⟨_,_,_,_,rfl⟩:=h.Km;exact⟨rfl,rfl,rfl⟩
  |mref id=>obtain⟨_,_,rfl⟩:=h.Kh;exact⟨rfl,rfl,rfl⟩
  |func f first cap=>obtain⟨_,_,rfl,_⟩:=h.Lh;exact⟨rfl,rfl,rfl⟩
  |aggr cs=>rcases hn with h | h<;>cases h
  |_=>simp[PV.okc,PV.Gi,PV.yo] at hk;exact absurd hk hf
theorem Ls.Tc{I:Imm}{bl:Bl}{v:Value}{p:PV}(h:Bz I bl w v p)(hk:p.okc=true):Ls I bl w v.cells.toList p.cells:=by
 have hn:(∃cs,p=.aggr cs)∨(p.isAgg=false∨p.flat=true):=by cases p<;>first | exact .inl ⟨_,rfl⟩ | exact .inr (.inl rfl) | exact .inr (.inr rfl)
 rcases hn with⟨cs,rfl⟩ | hn
 ·exact .xO h
 rcases lh h hk hn with h | ⟨h1,h2,_⟩
 ·exact .AwG (Mh.Qq h)
 ·rw[h1,h2];refine⟨rfl,fun i q hq=>?_⟩
  cases i with
  |zero=>simp at hq;subst hq;exact⟨v,rfl,h⟩
  |succ i=>simp at hq
theorem Inv.qO(hi:Inv cx G a w A σ)(hal:∀t,cx.al t=fi.alias t){d:Nat}(hd:d<cx.nt)(hk:cx.kd d=.box){cs:Array Value}{t:TypeId}{p:PV}(hrep:Ls G.I G.bl w cs.toList p.cells)
  (hown:∀(j:Nat) (q:PV),p.cells[j]?=some q→∀(G:Gh) (w:World) (tag:Tag) (c:Value),Eo G w tag c q) :
  Sim cx (a.put (some d) (.pointer (some ⟨w.heap.size,0,none⟩))) (w.alloc (.cells cs t)) (Dm (A.set d (some p)) (fi.ptrs d) ((fi.ptrs d).map fun _=>none)) σ:=by
 let G':=G.LH w.heap.size (fun _=>False) (some (.slot d none))
 have hext:=FN (fun tg=>∃j,tg=.slot d j) hi.base (.cells cs t) (fun _=>False) (some (.slot d none))
 refine⟨G',hi.step _ (some d) _ hext (E9 hi.base _ _ _) (by rw[Eh];simp) ?_ (fun id cs hc=>.inl ⟨hc,fun j h=>by obtain⟨_,h⟩:=h;cases h⟩) hi.len hi.abl⟩
 intro s q hq;obtain⟨hns,hq⟩:=ME _ _ _ _ hq;rw[Dk] at hq
 split at hq
 ·rename_i hc;cases hq;rw[hc.1];refine .inr ((DR hk).2 ⟨w.heap.size,FO _ _ _ (by rw[hi.size];exact hd),if_pos rfl,?_,cs,t,heap_alloc_new' _ _,by simpa using hrep.1,fun j r hr=>.inl ⟨?_,hown j r hr ..⟩⟩)
  ·rintro x (h | ⟨_,h⟩)
   ·have:=hi.base.lt _ _ h;omega
   ·exact h
  ·obtain⟨c,hc1,hc2⟩:=hrep.2 j r hr;rw[Ay] at hc1;rw[Aj,hc1];exact hc2.mono hext.I hext.same hext.bl
 ·rename_i hc;have hsd:s≠d:=fun e=>hc ⟨e,by have:=hi.room;omega⟩
  refine .inl ⟨hq,fun e=>hsd (Option.some.inj e).symm,fun j h=>?_,fun d' off e hbx hdd=>?_,fun m hm=>?_⟩
  ·obtain⟨j',h⟩:=h;cases h;exact hsd rfl
  ·have:=Option.some.inj hdd;subst this;subst e;have hsl:=hi.slot s _ hq;unfold Eg at hsl
   have hals:cx.al s=some d:=by
    cases hks:cx.kd s with
    |box => 
     rw[hks] at hsl;obtain⟨b,_,h1,h2,cs',el,h3,h4,h5⟩:=hsl;have:=((h5 0 (.lref d off) rfl).rep (by simp)).1
     exact absurd this.free (by simp[PV.free])
    |mapb keys=>rw[hks] at hsl;exact absurd hsl.1 (by simp)
    |ent m key=>rw[hks] at hsl;obtain⟨_,_,_,_,h,_⟩:=hsl;cases h
    |plain=>rw[hks] at hsl;exact hsl.2.1
    |imm=>rw[hks] at hsl;exact hsl.2.1
    |obj=>rw[hks] at hsl;exact hsl.2.1
   rw[hal] at hals;exact hns (ic hals)
  ·obtain⟨keys,hkm⟩:=cx.ents s m hm;have:m≠d:=fun e=>by rw[e,hk] at hkm;cases hkm
   refine⟨fun e=>this (Option.some.inj e).symm,?_⟩
   rintro⟨j,h⟩;cases h;exact this rfl
end
end Go.Abs

namespace Go.Abs
open Go.RowKit
section
variable{P:Program}{pur:FuncId→Bool}{call:Caller}{fi:FI}{cx:Cx}{G:Gh}{a:Act}{w:World}{A A':Frm}{σ σ':Sto}
theorem AzN{d:Nat}{k:PK}{az:List CQ}{clr:List Nat}(h:BU pur call { dst:=some d,k:=.p k,args:=az,clr:=clr } A σ=some (A',σ')):
  ∃vs rs,BS A az=some vs∧Be k vs=some rs∧σ'=σ∧∀p,rs=[p]→A'=Dm (A.set d p) clr (clr.map fun _=>none):=by
 unfold BU at h;dsimp only at h
 split at h
 ·rename_i vs hvs;simp only[sem] at h
  split at h
  ·rename_i rs σ₁ hs;obtain⟨rs',hrs,e⟩:=Ac.1 hs;cases e;refine⟨vs,rs,hvs,hrs,?_,?_⟩
   ·split at h
    ·cases h;rfl
    ·split at h<;>cases h;rfl
   ·rintro p rfl
    simp[AOp.wr,Dm] at h;rw[←h.1]
  ·cases h
 ·cases h
theorem vV(hi:Inv cx G a w A σ)(hkd:∀t,cx.kd t=fi.kind t)(hal:∀t,cx.al t=fi.alias t){o:Oper}{t:TypeId}{x:Operand}(ho:o.op=.box t x){d:Nat}(hod:o.dst=some d)
  (hd:d<cx.nt) (hk:cx.kd d=.box)
  {az:List CQ} (hc:Ap fi [x]=some az) (hrun:BU pur call { dst:=some d,k:=.p .bxl,args:=az,clr:=fi.ptrs d } A σ=some (A',σ')):Gives P cx o a w A' σ':=by
 obtain⟨vs,rs,he,hs,rfl,hA⟩:=AzN hrun;obtain⟨y,zs,rfl,hy,hz⟩:=AV hc;cases hz;obtain⟨p,qs,rfl,hp,hq⟩:=Ar he;cases hq;simp only[Be] at hs
 split at hs
 ·rename_i hf;cases hs;rw[hA _ rfl];have hrep:=(Bp hi hkd hy hp (Lb hf)).Ae;refine .inl ⟨.pointer (some ⟨w.heap.size,0,none⟩),w.alloc (.cells (a.eval x).cells t),?_,?_⟩
  ·simp only[execOp,ho,Instr.box,newVar,newRow];rfl
  ·rw[hod];exact hi.qO hal hd hk (Ls.Tc hrep (by rw[Je];exact hf)) (fun j q hq=>Ga hq)
 ·cases hs
theorem VR{v:Value}{p:PV}(h:QZ v=some p):∀(j:Nat) (q:PV),p.cells[j]?=some q→∀(G:Gh) (w:World) (tag:Tag) (c:Value),Eo G w tag c q:=by
 have h0:∀{v:Value} {p:PV},Kb v=some p→∀sz es,p≠.slice true sz es:=by
  intro v p h sz es;unfold Kb at h
  split at h<;>cases h<;>simp
 intro j q hq G w tag c;refine MH fun sz es e=>?_
 subst e;unfold QZ at h
 split at h
 ·rename_i cs;obtain⟨ps,hps,rfl⟩:=Ac.1 h
  have key:∀(vs:List Value) (ps:List PV),Qr vs=some ps→∀(i:Nat) (q:PV),ps[i]?=some q→∃v,Kb v=some q:=by
   intro vs
   induction vs with
   |nil=>intro ps h i q hq;cases h;simp at hq
   |cons v vs ih=>
    intro ps h i q hq;unfold Qr at h
    split at h
    ·rename_i r rs h1 h2;cases h;cases i with
     |zero=>simp at hq;subst hq;exact⟨v,h1⟩
     |succ i=>exact ih _ h2 i q (by simpa using hq)
    ·cases h
  obtain⟨v,hv⟩:=key _ _ hps j _ hq;exact h0 hv _ _ rfl
 ·have hp:p.cells=[p]:=by
   cases p with
   |agg cs=>unfold Kb at h;split at h<;>cases h
   |aggr cs=>unfold Kb at h;split at h<;>cases h
   |_=>rfl
  rw[hp] at hq;cases j with
  |zero=>simp at hq;exact h0 h _ _ hq
  |succ j=>simp at hq
theorem AzI(hi:Inv cx G a w A σ)(hal:∀t,cx.al t=fi.alias t){o:Oper}{t:TypeId}(ho:o.op=.alloc t){d:Nat}(hod:o.dst=some d)
  (hd:d<cx.nt) (hk:cx.kd d=.box) {z:PV} (hz:FH P t=some z)
  (hrun:BU pur call { dst:=some d,k:=.p (.zl z),args:=[],clr:=fi.ptrs d } A σ=some (A',σ')):Gives P cx o a w A' σ':=by
 obtain⟨vs,rs,he,hs,rfl,hA⟩:=AzN hrun;cases he;simp only[Be] at hs;cases hs;rw[hA _ rfl];unfold FH at hz
 split at hz
 ·rename_i it hit;obtain⟨zv,hzv,hzp⟩:=AL.1 hz;have hzr:Rep G.I w zv z:=F8 hzp;refine .inl ⟨.pointer (some ⟨w.heap.size,0,none⟩),w.alloc (.cells zv.cells t),?_,?_⟩
  ·have hzrun:(zeroValue t).run P w=.ok zv w:=by simp[zeroValue,typeInfo,hit,hzv]
   simp only[execOp,ho,Instr.alloc,Sem.run_bind,hzrun,Result.andThen_ok,newVar,newRow];rfl
  ·rw[hod];exact hi.qO hal hd hk (.AwG (Mh.Qq hzr)) (VR hzp)
 ·cases hz
end
end Go.Abs

namespace Go.Abs
open Go.RowKit
section
variable{P:Program}{pur:FuncId→Bool}{call:Caller}{fi:FI}{cx:Cx}{G:Gh}{a:Act}{w:World}{A A':Frm}{σ σ':Sto}
theorem dw{c v:PV}{off n:Nat}{ag:Bool}(h:sub c off n ag=some v):fits n ag v=true:=by
 unfold sub at h;cases ag with
 |true=>
  cases c with
  |agg cs=>
   dsimp only at h
   split at h
   ·rename_i hc;cases h;simp[fits];omega
   ·cases h
  |_=>cases h
 |false=>
  dsimp only at h
  split at h
  ·split at h
   ·cases h
   ·rename_i hag;cases h;simp only[CW,not_or] at hag;cases v with
    |agg _=>exact absurd rfl hag.1
    |aggr _=>exact absurd rfl hag.1
    |_=>rfl
  ·cases h
theorem R5{c v:PV}{off n:Nat}{ag:Bool}(h:sub c off n ag=some v):∀(j:Nat) (p:PV),v.cells[j]?=some p→p≠.self:=by
 unfold sub at h;cases ag with
 |true=>
  cases c with
  |agg cs=>
   dsimp only at h
   split at h
   ·rename_i hc;cases h;intro j p hp e;subst e;have:=Au hp;have hh:=Av.1 hc.2 _ this;cases hh
   ·cases h
  |_=>cases h
 |false=>
  dsimp only at h
  split at h
  ·split at h
   ·cases h
   ·rename_i hag;cases h;simp only[CW,not_or] at hag
    have hv:v.cells=[v]:=by
     cases v with
     |agg _=>exact absurd rfl hag.1
     |aggr _=>exact absurd rfl hag.1
     |_=>rfl
    intro j p hp e;subst e;rw[hv] at hp;cases j with
    |zero=>simp at hp;subst hp;exact hag.2 rfl
    |succ j=>simp at hp
  ·cases h
theorem nQ{c v:PV}{off n:Nat}(h:sub c off n true=some v):∀(j:Nat) (p:PV),v.cells[j]?=some p→p.flat=true:=by
 unfold sub at h;cases c with
 |agg cs=>
  dsimp only at h
  split at h
  ·rename_i hc;cases h;intro j p hp;exact Av.1 hc.2 _ (Au hp)
  ·cases h
 |_=>cases h
theorem DT{t:Nat}{p:PV}{ys:List CQ}{qs:List PV}(he:BS A (.slot t::ys)=some (p::qs)):A.get t=some p∧BS A ys=some qs:=by
 simp only[BS] at he
 split at he
 ·rename_i v vs hg hv;cases he;exact⟨hg,hv⟩
 ·cases he
theorem QO{I:Imm}{bl:Bl}{b off base n:Nat}{ag:Bool}{t:TypeId}(hn:Cv P t=some (n,ag)){c v:PV}{cs:Array Value}{elem:TypeId}(hheap:w.heap[b]?=some (.cells cs elem (0,0)))
  (hsz:base+c.cells.length≤cs.size) (hall:∀(j:Nat) (p:PV),c.cells[j]?=some p→p≠.self→Bz I bl w (cs.getD (base+j) undef) p) (hsub:sub c off n ag=some v) :
  ∃u,(Instr.loadAt t (.pointer (some ⟨b,base+off,none⟩))).run P w=.ok u w∧Bz I bl w u v:=by
 have hsc:=Na hsub
 obtain⟨u,h1,h2,h3⟩:=QP (P:=P) (w:=w) (b:=b) (off:=base+off) (cv:=fun j=>cs.getD (base+(off+j)) undef) hn (dw hsub) (fun j p hp=>by
  have h:=hsc j p hp;have hlt:base+(off+j) < cs.size:=by have:=(Ad.1 h).1;omega
  rw[Dq];simp[World.cell?,hheap,Array.getD,hlt])
 refine⟨u,h1,?_⟩
 cases ag with
 |true=>exact .one (.inl (h2 I (fun j p hp=>(hall _ p (hsc j p hp) (R5 hsub j p hp)).flat (nQ hsub j p hp))))
 |false=>
  obtain⟨rfl,hv⟩:=h3 rfl;have h0:v.cells[0]?=some v:=by rw[hv];rfl
  exact hall _ v (hsc 0 v h0) (R5 hsub 0 v h0)
theorem IB{b off n:Nat}{ag:Bool}{t:TypeId}(hn:Cv P t=some (n,ag)){tag:Option Nat→Tag}{c v:PV}(hcell:F5 G w b tag c.cells)(hsub:sub c off n ag=some v):
  ∃u,(Instr.loadAt t (.pointer (some ⟨b,off,none⟩))).run P w=.ok u w∧Bz G.I G.bl w u v:=by
 obtain⟨_,_,cs,elem,hheap,hsz,hall⟩:=hcell;have:=QO (P:=P) (I:=G.I) (bl:=G.bl) (base:=0) hn hheap (by omega) (fun j p hp hs=>by rw[Bq];exact((hall j p hp).rep hs).1) hsub
 rwa [Bq] at this
theorem O1{b off n:Nat}{ag:Bool}{t:TypeId}(hn:Cv P t=some (n,ag)){tag:Option Nat→Tag}{c v:PV}(hcell:F5 G w b tag c.cells)(hsub:R6 c off n ag=some v):
  ∃u,(Instr.loadAt t (.pointer (some ⟨b,off,none⟩))).run P w=.ok u w∧Bz G.I G.bl w u v:=by
 unfold R6 at hsub
 split at hsub
 ·rename_i x hx;cases hsub;exact IB hn hcell hx
 ·cases ag with
  |false=>cases hsub
  |true=>
   cases c with
   |agg cs=>
    dsimp only at hsub
    split at hsub
    case isFalse=>cases hsub
    rename_i hc;cases hsub;obtain⟨_,_,vs,elem,hheap,hsz,hall⟩:=hcell;simp only[PV.cells] at hsz hall;have hlt:∀j,j<n→off+j<vs.size:=fun j hj=>by omega
    have h:=run_loadCells (P:=P) (w:=w) ⟨b,off,none⟩ n (fun j=>vs.getD (off+j) undef) (fun j hj=>by
     rw[Fh];simp[World.cell?,hheap,Array.getD,hlt j hj])
    refine⟨.agg ((List.range n).map fun j=>vs.getD (off+j) undef).toArray,by simp[Instr.loadAt,Instr.sureAddr,loadVar,Jd hn,run_sizeOf hn,h],.aggr (by simp;omega) fun i p hp=>?_⟩
    have hp':=hp;rw[Cb] at hp
    split at hp
    case isFalse=>cases hp
    rename_i hin;rw[Cw] at hp;have e:((List.range n).map fun j=>vs.getD (off+j) undef).toArray.getD i undef=vs.getD (off+i) undef:=by simp[Array.getD,hin]
    rw[e];have hf:=Av.1 hc.2 p (Au hp');simp only[Ai] at hf;exact((hall _ p hp).rep (by rintro rfl;cases hf.1)).1.AzR hf.1
   |_=>cases hsub
theorem WX(hi:Inv cx G a w A σ)(hkd:∀t,cx.kd t=fi.kind t)(hnt:cx.nt=fi.nt){o:Oper}{t:TypeId}{d:Nat}(ho:o.op=.load t (.tmp d))(hk:cx.kd d=.box){n:Nat}{ag:Bool}(hn:Cv P t=some (n,ag))
  (hd:BC fi o.dst=true) (hrun:BU pur call { dst:=o.dst,k:=.p (.ldl 0 n ag),args:=[.slot d] } A σ=some (A',σ')):Gives P cx o a w A' σ':=by
 refine GX hi hkd hnt hd hrun fun vs rs he hs=>?_
 match vs,hs with
 |[c],hs=>
  obtain⟨hg,_⟩:=DT he;obtain⟨b,hb,hcell⟩:=(DR hk).1 (hi.slot d c hg);simp only[Be] at hs;obtain⟨v,hv,e⟩:=Ac.1 hs;cases e;obtain⟨u,h1,h2⟩:=O1 (P:=P) hn hcell hv;have hev:a.eval (.tmp d)=.pointer (some ⟨b,0,none⟩):=hb;exact⟨_,u,rfl,by rw[Da];exact h2.free,by simp[execOp,ho,hev,h1],h2.Ae,fun _=>Cr _⟩
 |[],hs=>simp[Be] at hs
 |_::_::_,hs=>simp[Be] at hs
theorem Nl(hi:Inv cx G a w A σ){s d off:Nat}(hg:A.get s=some (.lref d off)):cx.kd d=.box∧cx.al s=some d∧∃b,at' a d=.pointer (some ⟨b,0,none⟩)∧at' a s=.pointer (some ⟨b,off,none⟩):=by
 have h:=hi.slot s _ hg;unfold Eg at h;cases hk:cx.kd s with
 |box=>
  rw[hk] at h;obtain⟨b,_,h1,h2,cs',el,h3,h4,h5⟩:=h;have:=((h5 0 (.lref d off) rfl).rep (by simp)).1
  exact absurd this.free (by simp[PV.free])
 |mapb keys=>rw[hk] at h;exact absurd h.1 (by simp)
 |ent m key=>rw[hk] at h;obtain⟨_,_,_,_,h,_⟩:=h;cases h
 |plain | imm | obj=>
  rw[hk] at h;obtain⟨h1,hal,b,h2,h3⟩:=h;refine⟨h1,hal,b,h2,?_⟩
  rw[h3,Fh,Bq]
theorem Lc(hi:Inv cx G a w A σ){s d off:Nat}(hg:A.get s=some (.lref d off)):cx.kd d=.box∧∃b,at' a d=.pointer (some ⟨b,0,none⟩)∧at' a s=.pointer (some ⟨b,off,none⟩):=
 ⟨(Nl hi hg).1,(Nl hi hg).2.2⟩
theorem iU(hi:Inv cx G a w A σ)(hkd:∀t,cx.kd t=fi.kind t)(hnt:cx.nt=fi.nt){o:Oper}{t:TypeId}{s d:Nat}(ho:o.op=.load t (.tmp s)){n:Nat}{ag:Bool}(hn:Cv P t=some (n,ag))
  (hd:BC fi o.dst=true) (hrun:BU pur call { dst:=o.dst,k:=.p (.ldf d n ag),args:=[.slot s,.slot d] } A σ=some (A',σ')):Gives P cx o a w A' σ':=by
 refine GX hi hkd hnt hd hrun fun vs rs he hs=>?_
 match vs,hs with
 |[l,c],hm=>
  obtain⟨hgs,he2⟩:=DT he;obtain⟨hg,_⟩:=DT he2;cases l with
  |lref d' off=>
   simp only[Be] at hm
   split at hm
   ·rename_i e;subst e;obtain⟨v,hv,e⟩:=Ac.1 hm;cases e;obtain⟨hk,b,hb,hs'⟩:=Lc hi hgs;obtain⟨b',hb',hcell⟩:=(DR hk).1 (hi.slot d' c hg);rw[hb] at hb';cases hb';obtain⟨u,h1,h2⟩:=IB (P:=P) hn hcell hv;have hev:a.eval (.tmp s)=.pointer (some ⟨b,off,none⟩):=hs';exact⟨_,u,rfl,by rw[Da];exact h2.free,by simp[execOp,ho,hev,h1],h2.Ae,fun _=>Cr _⟩
   ·cases hm
  |_=>simp[Be] at hm
 |[],hs=>simp[Be] at hs
 |[_],hs=>simp[Be] at hs
 |_::_::_::_,hs=>simp[Be] at hs
end
end Go.Abs

namespace Go.Abs
open Go.RowKit
section
variable{P:Program}{pur:FuncId→Bool}{call:Caller}{fi:FI}{cx:Cx}{G:Gh}{a:Act}{w:World}{A A':Frm}{σ σ':Sto}
theorem Inv.Yy(hi:Inv cx G a w A σ){u d off b:Nat}(hu:u<cx.nt∧(cx.kd u).val=true)(hk:cx.kd d=.box)(hal:cx.al u=some d)(hb:at' a d=.pointer (some ⟨b,0,none⟩)):
  Inv cx G (a.put (some u) (.pointer (some ⟨b,off,none⟩))) w (A.set u (some (.lref d off))) σ:=by
 have hud:u≠d:=fun e=>by rw[e,hk] at hu;simp[SK.val] at hu
 refine hi.step (fun _=>False) (some u) _ (Ext.refl _ _ _) hi.base (by simp) ?_ (fun _ cs hc=>.inl ⟨hc,fun _ h=>h⟩) hi.len hi.abl
 intro t q hq;rw[Dk] at hq
 split at hq
 ·rename_i hc;cases hq;rw[hc.1];refine .inr ?_
  have h1:at' (a.put (some u) (.pointer (some ⟨b,off,none⟩))) u=.pointer (some ⟨b,off,none⟩):=FO _ _ _ (by rw[hi.size];exact hu.1)
  have h2:at' (a.put (some u) (.pointer (some ⟨b,off,none⟩))) d=.pointer (some ⟨b,0,none⟩):=by rw[Gq _ _ _ _ (fun e=>hud (Option.some.inj e))];exact hb
  unfold Eg;cases hku:cx.kd u<;>rw[hku] at hu<;>first | (simp[SK.val] at hu;done) | exact⟨hk,hal,b,h2,by rw[h1,Fh,Bq]⟩
 ·rename_i hc;have hne:u≠t:=fun e=>hc ⟨e.symm,by have:=hi.room;omega⟩
  refine .inl ⟨hq,fun e=>hne (Option.some.inj e),fun _ h=>h,fun d' off' e hbx hd'=>?_,fun m hm=>⟨fun e'=>?_,fun h=>h⟩⟩
  ·have:=Option.some.inj hd';subst this;rw[hbx] at hu;simp[SK.val] at hu
  ·have:=Option.some.inj e';subst this;obtain⟨keys,hkm⟩:=cx.ents t u hm;rw[hkm] at hu;simp[SK.val] at hu
theorem vN(hi:Inv cx G a w A σ)(hkd:∀t,cx.kd t=fi.kind t)(hnt:cx.nt=fi.nt)(hal:∀t,cx.al t=fi.alias t){o:Oper}{t:TypeId}{d f u:Nat}(ho:o.op=.fieldAddr t (.tmp d) f)(hou:o.dst=some u)
  {fs:Array Field} {fl:Field} (hs':P.underlying t=some (.struct fs)) (hf:fs[f]?=some fl) {n:Nat} {ag:Bool} (hn:Cv P fl.type=some (n,ag)) (hn0:n≠0)
  (hk:cx.kd d=.box) (hau:fi.alias u=some d) (hd:Dj fi u=true) (hrun:BU pur call { dst:=some u,k:=.p (.fal d fl.offset),args:=[.slot d] } A σ=some (A',σ')):Gives P cx o a w A' σ':=by
 obtain⟨vs,rs,he,hs,rfl,hA⟩:=kI hrun
 match vs,hs with
 |[c],hm=>
  obtain⟨hg,_⟩:=DT he;obtain⟨b,hb,hcell⟩:=(DR hk).1 (hi.slot d c hg);simp only[Be] at hm;rw[hA _ (Option.some.inj hm).symm];have hev:a.eval (.tmp d)=.pointer (some ⟨b,0,none⟩):=hb;refine .inl ⟨.pointer (some ⟨b,fl.offset,none⟩),w,?_,G,?_⟩
  ·have:=Jp (P:=P) (w:=w) hs' hf hn hn0 b 0;rw[Bq] at this;simp[execOp,ho,hev,this]
  ·rw[hou];exact hi.Yy (Fx hkd hnt hd) hk (by rw[hal];exact hau) hb
 |[],hm=>simp[Be] at hm
 |_::_::_,hm=>simp[Be] at hm
theorem oz(hi:Inv cx G a w A σ)(hkd:∀t,cx.kd t=fi.kind t)(hnt:cx.nt=fi.nt)(hal:∀t,cx.al t=fi.alias t){o:Oper}{t:TypeId}{s d f u:Nat}(ho:o.op=.fieldAddr t (.tmp s) f)(hou:o.dst=some u)
  {fs:Array Field} {fl:Field} (hs':P.underlying t=some (.struct fs)) (hf:fs[f]?=some fl) {n:Nat} {ag:Bool} (hn:Cv P fl.type=some (n,ag)) (hn0:n≠0)
  (has:fi.alias s=some d) (hau:fi.alias u=some d) (hd:Dj fi u=true) {off:Nat} {d':Nat} (hgs:A.get s=some (.lref d' off))
  (hrun:BU pur call { dst:=some u,k:=.p (.fa fl.offset n ag),args:=[.slot s] } A σ=some (A',σ')):Gives P cx o a w A' σ':=by
 obtain⟨vs,rs,he,hs,rfl,hA⟩:=kI hrun
 have hvs:vs=[.lref d' off]:=by
  simp only[BS,hgs] at he;cases he;rfl
 subst hvs;simp only[Be,faV] at hs;rw[hA _ (Option.some.inj hs).symm]
 have hdd:d'=d:=by
  have:=(Nl hi hgs).2.1;rw[hal,has] at this;exact(Option.some.inj this).symm
 subst hdd;obtain⟨hk,b,hb,hss⟩:=Lc hi hgs;have hev:a.eval (.tmp s)=.pointer (some ⟨b,off,none⟩):=hss;refine .inl ⟨.pointer (some ⟨b,off+fl.offset,none⟩),w,?_,G,?_⟩
 ·have:=Jp (P:=P) (w:=w) hs' hf hn hn0 b off;simp[execOp,ho,hev,this]
 ·rw[hou];exact hi.Yy (Fx hkd hnt hd) hk (by rw[hal];exact hau) hb
end
end Go.Abs

namespace Go.Abs
open Go.RowKit
section
variable{P:Program}{pur:FuncId→Bool}{call:Caller}{fi:FI}{cx:Cx}{G:Gh}{a:Act}{w:World}{A A':Frm}{σ σ':Sto}
theorem Jj{X:Tag→Prop}{b:Nat}{t0:Tag}(hω:G.ω b=some t0)(hI:∀x,¬G.I b x)(hX:X t0)(cs:Array Value):Ext X G G w (w.setRow b cs):=by
 have hne:∀b' x,G.I b' x→b'≠b:=fun b' x h e=>hI x (e▸h)
 refine⟨fun _ _ h=>h,⟨fun b' o h=>cell_of_heap (setRow_other _ _ _ _ (hne _ _ h)),fun b' h=>setRow_other _ _ _ _ (hne _ _ h)⟩,Bl.le_refl _,fun _ _ _ _=>rfl,fun b' tg h' hn=>⟨h',setRow_other _ _ _ _ ?_,fun _ h=>h⟩⟩
 intro e;subst e;rw[hω] at h';cases h';exact hn hX
theorem IJ(hb:Base cx G w){b:Nat}{t0:Tag}(hω:G.ω b=some t0)(hI:∀x,¬G.I b x)(cs:Array Value):Base cx G (w.setRow b cs):=by
 have hne:∀b' x,G.I b' x→b'≠b:=fun b' x h e=>hI x (e▸h)
 have hK:∀b',cx.K b'→b'≠b:=fun b' h e=>(hb.own b t0 hω).2 (e▸h)
 refine⟨fun b' h=>?_,?_,hb.sub,hb.new,fun b' x h=>by rw[setRow_size];exact hb.lt b' x h,fun b' tg h=>by rw[setRow_size];exact hb.own b' tg h,hb.Klt,by rw[setRow_size];exact hb.grow,hb.bl,hb.os,hb.tape,hb.output⟩
 ·rw[setRow_other _ _ _ _ (hK b' h)];exact hb.keep b' h
 ·exact hb.same.trans (I':=G.I) ⟨fun b' o h=>cell_of_heap (setRow_other _ _ _ _ (hne _ _ h)),fun b' h=>setRow_other _ _ _ _ (hne _ _ h)⟩ hb.sub
theorem Gv{b off:Nat}{t elem:TypeId}{n:Nat}{ag:Bool}(hn:Cv P t=some (n,ag)){cs:Array Value}(hheap:w.heap[b]?=some (.cells cs elem (0,0))){v:Value}(hv:v.cells.size=n)
  (hone:∀x∈v.cells.toList,x.oneCell'=true) (hfit:off+n≤cs.size) :
  (Instr.storeAt t (.pointer (some ⟨b,off,none⟩)) v).run P w=.ok () (w.setRow b (cs.toList.take off++v.cells.toList++cs.toList.drop (off+v.cells.toList.length)).toArray):=by
 have:=run_storeCells_at P b off elem v.cells.toList 0 cs w hheap (by simp;omega) hone
 simp only[Nat.add_zero] at this;simp[Instr.storeAt,Instr.sureAddr,storeVar,run_sizeOf hn,hv] at this ⊢;exact this
theorem Pf{I:Imm}{v:Value}{p:PV}(h:Rep I w v p)(hp:p.ones=true):∀x∈v.cells.toList,x.oneCell'=true:=by
 intro x hx;obtain⟨i,hi⟩:=BL.1 hx;obtain⟨h1,h2⟩:=Mh.Qq h;have hlt:i<p.cells.length:=by rw[←h1];exact(Ad.1 hi).1
 have hq:=Ah hlt;obtain⟨c,hc,hr⟩:=h2 i _ hq;rw[hi] at hc;cases hc;exact RF hr (Av.1 hp _ (Ci hlt))
theorem Ta{I:Imm}{bl:Bl}{v:Value}{p:PV}(h:Bz I bl w v p)(hk:p.okc=true)(hp:p.ones=true):∀x∈v.cells.toList,x.oneCell'=true:=by
 by_cases hf:p.flat=true
 ·exact Pf (h.flat hf) hp
 ·cases p with
  |ref id off=>obtain⟨b,_,rfl⟩:=h.Jm;intro x hx;simp[Value.cells] at hx;subst hx;rfl
  |arr id gen off len size=>obtain⟨_,_,_,_,_,_,_,_,_,_,rfl⟩:=h.Jn;intro x hx;simp[Value.cells] at hx;subst hx;rfl
  |aptr id gen size i off=>obtain⟨_,_,_,_,rfl⟩:=h.Km;intro x hx;simp[Value.cells] at hx;subst hx;rfl
  |mref id=>obtain⟨_,_,rfl⟩:=h.Kh;intro x hx;simp[Value.cells] at hx;subst hx;rfl
  |func f first cap=>obtain⟨_,_,rfl,_⟩:=h.Lh;intro x hx;simp[Value.cells] at hx;subst hx;rfl
  |aggr ps=>
   intro x hx;obtain⟨cs,rfl,h1,h2⟩:=h.UD;simp only[Value.cells] at hx;obtain⟨i,hi⟩:=BL.1 hx;rw[Ay] at hi;have hlt:i<ps.length:=by rw[←h1];exact(Br.1 hi).1
   have hc:=h2 i _ (Ah hlt);rw[Aj,hi] at hc;have h3:=Av.1 hk _ (Ci hlt);simp only[Ai] at h3;rcases hc with hc | hc
   ·exact RF hc h3.2
   ·cases hc':ps[i] with
    |ref id off=>rw[hc'] at hc;cases hc;rfl
    |arr id gen off len size=>rw[hc'] at hc;cases hc;rfl
    |aptr id gen size i off=>rw[hc'] at hc;cases hc;rfl
    |mref id=>rw[hc'] at hc;cases hc;rfl
    |_=>rw[hc'] at hc;cases hc
  |_=>simp[PV.okc,PV.Gi,PV.yo] at hk;exact absurd hk hf
theorem M9{c x c':PV}{off:Nat}(h:upd c off x=some c'):c'.cells=EX c.cells off x.cells∧off+x.cells.length≤c.cells.length:=by
 unfold upd at h
 split at h
 ·split at h
  ·rename_i hl;cases h;exact⟨rfl,hl⟩
  ·cases h
 ·split at h
  ·rename_i hl;cases h;exact⟨rfl,hl⟩
  ·cases h
 ·rename_i hna hna2
  split at h
  ·cases h
  ·cases h
  ·rename_i hxa hxa2
   split at h
   ·rename_i h0;cases h;subst h0;have e1:c.cells=[c]:=by cases c<;>first | rfl | exact absurd rfl (hna _) | exact absurd rfl (hna2 _)
    have e2:x.cells=[x]:=by cases x<;>first | rfl | exact absurd rfl (hxa _) | exact absurd rfl (hxa2 _)
    rw[e1,e2];exact⟨rfl,by simp⟩
   ·cases h
theorem KJ{G':Gh}{w':World}{b off:Nat}{tag:Option Nat→Tag}{ps qs:List PV}{ds:List Value}{cs:Array Value}{elem:TypeId}
  (hω:G'.ω b=some (tag none)) (hI:∀x,¬G'.I b x) (hheap:w'.heap[b]?=some (.cells (cs.toList.take off++ds++cs.toList.drop (off+ds.length)).toArray elem (0,0)))
  (hsz:cs.size=ps.length) (hl:off+qs.length≤ps.length) (hds:ds.length=qs.length)
  (hold:∀(j:Nat) (p:PV),ps[j]?=some p→(j<off∨off+qs.length≤j)→M8 G' w' b (tag (some j)) (cs.getD j undef) p)
  (hnew:∀(j:Nat) (q:PV),qs[j]?=some q→∃c,ds[j]?=some c∧M8 G' w' b (tag (some (off+j))) c q):F5 G' w' b tag (EX ps off qs):=by
 have hcl:cs.toList.length=ps.length:=by simpa using hsz
 have e1:(cs.toList.take off).length=off:=by rw[Ba,hcl];omega
 have e2:(ps.take off).length=off:=by rw[Ba];omega
 refine⟨hω,hI,_,elem,hheap,?_,fun j p hp=>?_⟩
 ·unfold EX;simp only[BX,Af,Ba,AU,hcl,hds]
 ·have hgetD:∀(k:Nat) (c:Value) (l:List Value),l[k]?=some c→l.toArray.getD k undef=c:=by
   intro k c l h;rw[Aj,Dw,h];rfl
  unfold EX at hp;rw[AP] at hp ⊢;by_cases h1:j<off
  ·rw[Ak (by omega),Cb,if_pos h1] at hp
   have r1:=hold j p hp (.inl h1)
   have:(cs.toList.take off++(ds++cs.toList.drop (off+ds.length))).toArray.getD j undef=cs.getD j undef:=by
    rw[Aj,Dw,Ak (by omega),Cb,if_pos h1,Ay,Aj]
   rw[this];exact r1
  ·rw[Ao (by omega),e2] at hp
   by_cases h2:j - off<qs.length
   ·rw[Ak h2] at hp;obtain⟨c,hc,r2⟩:=hnew _ p hp
    have:(cs.toList.take off++(ds++cs.toList.drop (off+ds.length))).toArray.getD j undef=c:=by
     apply hgetD;rw[Ao (by omega),e1,Ak (by omega)];exact hc
    rw[this];rw[show off+(j - off)=j from by omega] at r2
    exact r2
   ·rw[Ao (by omega),Cw] at hp
    rw[show off+qs.length+(j - off - qs.length)=j from by omega] at hp
    have r1:=hold j p hp (.inr (by omega))
    have:(cs.toList.take off++(ds++cs.toList.drop (off+ds.length))).toArray.getD j undef=cs.getD j undef:=by
     rw[Aj,Dw,Ao (by omega),e1,Ao (by omega),Cw,
      show off+ds.length+(j - off - ds.length)=j from by omega,Ay,Aj]
    rw[this];exact r1
theorem Inv.Y8{G':Gh}{w':World}{X:Tag→Prop}{T:Nat→Prop}{d b:Nat}{c':PV}(hi:Inv cx G a w A σ)(dst:Option Nat)(v:Value)(hdst:∀u,dst=some u→(cx.kd u).val=true)
  (hk:cx.kd d=.box) (hb:at' a d=.pointer (some ⟨b,0,none⟩)) (hcells:F5 G' w' b (.slot d) c'.cells) (he:Ext X G G' w w') (hbase:Base cx G' w') (hbl:G'.bl=G.bl)
  (hX:∀tg,X tg→∃t j,tg=.slot t j∧(t=d∨T t)) (hT:∀t,T t→(cx.kd t).val=true) (hl:A'.length=A.length)
  (hA:∀t p,A'.get t=some p→(t=d∧p=c')∨(t≠d∧¬T t∧dst≠some t∧A.get t=some p)∨Eg cx G' (a.put dst v) w' t p):Inv cx G' (a.put dst v) w' A' σ:=by
 have hval:∀m,(cx.kd m).val=false→dst≠some m∧¬T m:=fun m hm=>by
  refine⟨fun e=>?_,fun e=>?_⟩
  ·rw[hdst m e] at hm;cases hm
  ·rw[hT m e] at hm;cases hm
 refine hi.step X dst v he hbase hl ?_ ?_ (by rw[hbl];exact hi.len) (by rw[hbl];exact hi.abl)
 ·intro t p hp;rcases hA t p hp with⟨rfl,rfl⟩ | ⟨h1,h2,h3,h4⟩ | h
  ·refine .inr ((DR hk).2 ⟨b,?_,hcells⟩)
   rw[Gq _ _ _ _ (hval t (by rw[hk];rfl)).1];exact hb
  ·refine .inl ⟨h4,h3,fun j hx=>?_,fun d' off e hbx=>(hval d' (by rw[hbx];rfl)).1,fun m hm=>?_⟩
   ·obtain⟨t',j',e,h⟩:=hX _ hx;cases e;rcases h with h | h
    ·exact h1 h
    ·exact h2 h
   ·obtain⟨keys,hkm⟩:=cx.ents t m hm;have:=hval m (by rw[hkm];rfl)
    refine⟨this.1,fun hx=>?_⟩
    obtain⟨t',j',e,h⟩:=hX _ hx;cases e;rcases h with h | h
    ·rw[h,hk] at hkm;cases hkm
    ·exact this.2 h
  ·exact .inr h
 ·intro id cs hc;refine .inl ⟨hc,fun j hx=>?_⟩
  obtain⟨t',j',e,_⟩:=hX _ hx;cases e
end
end Go.Abs

namespace Go.Abs
open Go.RowKit
section
variable{P:Program}{pur:FuncId→Bool}{call:Caller}{fi:FI}{cx:Cx}{G:Gh}{a:Act}{w:World}{A A':Frm}{σ σ':Sto}
theorem NG{ao:AOp}{k:PK}(hk:ao.k=.p k)(h:BU pur call ao A σ=some (A',σ')):
  ∃vs rs,BS A ao.args=some vs∧Be k vs=some rs∧σ'=σ∧(rs.length=ao.dst.toList.length+ao.ex.length→A'=Dm A ao.wr (rs++ao.clr.map fun _=>none)):=by
 unfold BU at h
 split at h
 ·rename_i vs hvs;rw[hk] at h;simp only[sem] at h
  split at h
  ·rename_i rs σ₁ hs;obtain⟨rs',hrs,e⟩:=Ac.1 hs;cases e;refine⟨vs,rs,hvs,hrs,?_,fun hl=>?_⟩
   ·split at h
    ·cases h;rfl
    ·split at h<;>cases h;rfl
   ·rw[if_pos hl] at h;cases h;rfl
  ·cases h
 ·cases h
theorem Qw{t:Nat}{p:PV}(h:A.get t=some p):t<A.length:=by
 unfold Frm.get at h
 split at h
 ·rename_i v hv;exact(Ad.1 hv).1
 ·cases h
theorem Jq(p:PV):p.Ae.ones=p.ones:=by
 cases p with
 |agg cs=>
  simp only[PV.Ae,PV.ones,PV.cells,List.all_map];congr 1
  funext x
  cases x<;>rfl
 |aggr cs=>
  simp only[PV.Ae,PV.ones,PV.cells,List.all_map];congr 1
  funext x
  cases x<;>rfl
 |_=>rfl
theorem Wp(hi:Inv cx G a w A σ){d off b:Nat}{c p c':PV}(hk:cx.kd d=.box)(hg:A.get d=some c)(hb:at' a d=.pointer (some ⟨b,0,none⟩)){v:Value}(hrep:Bz G.I G.bl w v p)(hok:p.okc=true)(hones:p.ones=true)
  (howns:∀(j:Nat) (q:PV),p.cells[j]?=some q→∀(G:Gh) (w:World) (tag:Tag) (c:Value),Eo G w tag c q) (hu:upd c off p=some c') {t:TypeId} {n:Nat} {ag:Bool} (hn:Cv P t=some (n,ag)) (hv:p.cells.length=n) :
  ∃w',(Instr.storeAt t (.pointer (some ⟨b,off,none⟩)) v).run P w=.ok () w'∧Inv cx G (a.put none undef) w' (A.set d (some c')) σ:=by
 obtain⟨b',hb',hω,hI,cs,elem,hheap,hsz,hall⟩:=(DR hk).1 (hi.slot d c hg);rw[hb] at hb';cases hb';obtain⟨hc',hle⟩:=M9 hu;have hcl:=Ls.Tc hrep hok;have hvs:v.cells.size=p.cells.length:=by simpa using hcl.1
 have hext:=Jj (G:=G) (w:=w) (X:=fun tg=>tg=.slot d none) hω hI rfl (cs.toList.take off++v.cells.toList++cs.toList.drop (off+v.cells.toList.length)).toArray
 refine⟨_,Gv hn hheap (by omega) (Ta hrep hok hones) (by omega),?_⟩
 refine hi.Y8 (X:=fun tg=>tg=.slot d none) (T:=fun _=>False) (d:=d) (c':=c') none undef (by simp) hk hb ?_ hext (IJ hi.base hω hI _) rfl ?_ (fun _ h=>h.elim) (by simp) ?_
 ·rw[hc'];refine KJ hω hI (setRow_heap _ _ _ _ _ _ hheap) hsz hle (by simpa using hvs) ?_ ?_
  ·intro j q hq _;exact(hall j q hq).ext hext (by simp)
  ·intro j q hq;obtain⟨c,hc,hr⟩:=hcl.2 j q hq;exact⟨c,hc,.inl ⟨hr.mono hext.I hext.same hext.bl,howns j q hq ..⟩⟩
 ·intro tg h;exact⟨d,none,h,.inl rfl⟩
 ·intro s q hq;rw[Dk] at hq
  split at hq
  ·rename_i h;cases hq;exact .inl ⟨h.1,rfl⟩
  ·rename_i h;exact .inr (.inl ⟨fun e=>h ⟨e,Qw hg⟩,id,by simp,hq⟩)
theorem u7(hi:Inv cx G a w A σ)(hkd:∀t,cx.kd t=fi.kind t){o:Oper}{t:TypeId}{s:Nat}{x:Operand}(ho:o.op=.store t (.tmp s) x)(hod:o.dst=none)(hk:cx.kd s=.box){n:Nat}{ag:Bool}(hn:Cv P t=some (n,ag))
  {az:List CQ} (hc:Ap fi [x]=some az) (hrun:BU pur call { dst:=none,k:=.p (.stl 0 n),args:=.slot s::az,ex:=[s] } A σ=some (A',σ')):Gives P cx o a w A' σ':=by
 obtain⟨vs,rs,he,hs,rfl,hA⟩:=NG rfl hrun;obtain⟨y,zs,rfl,hy,hz⟩:=AV hc;cases hz;obtain⟨c,qs,rfl,_,hq⟩:=Ar he;obtain⟨p,qs,rfl,hp,hq⟩:=Ar hq;cases hq;obtain⟨hg,_⟩:=DT he;simp only[Be] at hs
 split at hs
 ·rename_i hf;obtain⟨hf1,hf2,hf3⟩:=hf;obtain⟨c',hc',e⟩:=Ac.1 hs;cases e;obtain⟨b,hb,_⟩:=(DR hk).1 (hi.slot s c hg);have hrep:=(Bp hi hkd hy hp (Lb hf2)).Ae;obtain⟨w',hr,hinv⟩:=Wp (P:=P) hi hk hg hb hrep (by rw[Je];exact hf2) (by rw[Jq];exact hf3) (fun j q hq=>Ga hq) hc' hn (by rw[Ea];exact hf1)
  have hev:a.eval (.tmp s)=.pointer (some ⟨b,0,none⟩):=hb;rw[hA rfl];refine .inr ⟨w',?_,G,?_⟩
  ·simp[execOp,ho,hev,hr]
  ·rw[hod];exact hinv
 ·cases hs
theorem iQ(hi:Inv cx G a w A σ)(hkd:∀t,cx.kd t=fi.kind t){o:Oper}{t:TypeId}{s d:Nat}{x:Operand}(ho:o.op=.store t (.tmp s) x)(hod:o.dst=none){n:Nat}{ag:Bool}(hn:Cv P t=some (n,ag))
  {az:List CQ} (hc:Ap fi [x]=some az) (hrun:BU pur call { dst:=none,k:=.p (.stf d n),args:=.slot s::.slot d::az,ex:=[d] } A σ=some (A',σ')):Gives P cx o a w A' σ':=by
 obtain⟨vs,rs,he,hs,rfl,hA⟩:=NG rfl hrun;obtain⟨y,zs,rfl,hy,hz⟩:=AV hc;cases hz;obtain⟨l,qs,rfl,_,hq⟩:=Ar he;obtain⟨c,qs,rfl,_,hq'⟩:=Ar hq;obtain⟨p,qs,rfl,hp,hq''⟩:=Ar hq';cases hq'';obtain⟨hgs,_⟩:=DT he;obtain⟨hg,_⟩:=DT hq;cases l with
 |lref d' off=>
  simp only[Be] at hs
  split at hs
  ·rename_i hf;obtain⟨rfl,hf1,hf2,hf3⟩:=hf;obtain⟨c',hc',e⟩:=Ac.1 hs;cases e;obtain⟨hk,b,hb,hss⟩:=Lc hi hgs;have hrep:=(Bp hi hkd hy hp (Lb hf2)).Ae;obtain⟨w',hr,hinv⟩:=Wp (P:=P) hi hk hg hb hrep (by rw[Je];exact hf2) (by rw[Jq];exact hf3) (fun j q hq=>Ga hq) hc' hn (by rw[Ea];exact hf1)
   have hev:a.eval (.tmp s)=.pointer (some ⟨b,off,none⟩):=hss;rw[hA rfl];refine .inr ⟨w',?_,G,?_⟩
   ·simp[execOp,ho,hev,hr]
   ·rw[hod];exact hinv
  ·cases hs
 |_=>simp[Be] at hs
theorem YD(hb:Base cx G w){t0 t1:Tag}{v:Value}{p:PV}(ho:Eo G w t0 v p):
  ∃G',G'.I=G.I∧G'.bl=G.bl∧Ext (fun tg=>tg=t0) G G' w w∧Base cx G' w∧Eo G' w t1 v p:=by
 by_cases h:∃sz es,p=.slice true sz es
 ·obtain⟨sz,es,rfl⟩:=h;obtain⟨b,off,cap,cs,elem,rfl,h1,h2,h3,h4,h5,h6,h7⟩:=ho;refine⟨G.retag b t1,rfl,rfl,Wj h1 rfl,Us hb h1,?_⟩
  exact⟨b,off,cap,cs,elem,rfl,by simp[Gh.retag],h2,h3,h4,h5,h6,h7⟩
 ·exact⟨G,rfl,rfl,Ext.refl _ _ _,hb,MH (fun sz es e=>h ⟨sz,es,e⟩)⟩
theorem Ext.weaken{X Y:Tag→Prop}{G G':Gh}{w w':World}(h:Ext X G G' w w')(hXY:∀tg,X tg→Y tg):Ext Y G G' w w':=
 ⟨h.I,h.same,h.bl,fun id hid hX g=>h.ab id hid (fun j hx=>hX j (hXY _ hx)) g,fun b tag ht hn=>h.fix b tag ht (fun hx=>hn (hXY _ hx))⟩
def PV.Jt:PV→Bool
 |.slice _ _ _ | .nils=>true
 |_=>false
theorem JR{p:PV}(h:p.Jt=true):p.free=true:=by cases p<;>first | rfl | simp[PV.Jt] at h
theorem TE{p:PV}(h:p.Jt=true):p.cells=[p]:=by cases p<;>first | rfl | simp[PV.Jt] at h
theorem bZ{p:PV}(h:p.Jt=true):p.Ae.Jt=true:=by cases p<;>first | rfl | simp[PV.Jt] at h
theorem bY{I:Imm}{bl:Bl}{v:Value}{p:PV}(h:Bz I bl w v p)(hs:p.Jt=true):Rep I w v p:=by
 refine h.rep (by cases p<;>first | rfl | cases hs) ?_ ?_ ?_<;>(intros;intro e;subst e;simp[PV.Jt] at hs)
theorem Nn{p:PV}(h:p.Jt=true):p≠.self:=by intro e;subst e;simp[PV.Jt] at h
theorem V5{p:PV}(h:p.Jt=true):p.ones=true:=by cases p<;>first | rfl | simp[PV.Jt] at h
theorem bX{I:Imm}{v:Value}{p:PV}(h:Rep I w v p)(hs:p.Jt=true):v.cells=#[v]:=by
 cases h<;>first | rfl | simp[PV.Jt] at hs
theorem nT{d:Nat}{l c v:PV}{rs:List (Option PV)}(h:Be (.stfo d) [l,c,v]=some rs):∃off c',l=.lref d off∧v.Jt=true∧upd c off v=some c'∧rs=[some c',some v.Ae]:=by
 cases l with
 |lref s off=>
  simp only[Be] at h
  split at h
  ·rename_i e;subst e;cases v<;>first | (cases h;done) | (obtain⟨c',hc',e⟩:=Ac.1 h;exact⟨off,c',rfl,rfl,hc',e.symm⟩)
  ·cases h
 |_=>simp[Be] at h
theorem og(hi:Inv cx G a w A σ)(hkd:∀t,cx.kd t=fi.kind t)(hnt:cx.nt=fi.nt){o:Oper}{t:TypeId}{s d u:Nat}(ho:o.op=.store t (.tmp s) (.tmp u))(hod:o.dst=none){n:Nat}{ag:Bool}(hn:Cv P t=some (n,ag))(hn1:n=1)
  (hu:Dj fi u=true) (hrun:BU pur call { dst:=none,k:=.p (.stfo d),args:=[.slot s,.slot d,.slot u],ex:=[d,u] } A σ=some (A',σ')):Gives P cx o a w A' σ':=by
 subst hn1;obtain⟨vs,rs,he,hs,rfl,hA⟩:=NG rfl hrun;obtain⟨l,qs,rfl,_,hq⟩:=Ar he;obtain⟨c,qs,rfl,_,hq'⟩:=Ar hq;obtain⟨p,qs,rfl,hp,hq''⟩:=Ar hq';cases hq'';obtain⟨hgs,_⟩:=DT he;obtain⟨hg,_⟩:=DT hq;obtain⟨off,c',rfl,hsl,hup,rfl⟩:=nT hs;have huv:=Fx hkd hnt hu;obtain⟨hk,b,hb,hss⟩:=Lc hi hgs;obtain⟨hrT,how⟩:=Mo hi huv.2 hp (JR hsl);have hrep:=bY hrT hsl;obtain⟨G',e1,e2,hext1,hbase1,how1⟩:=YD (t1:=.slot d (some off)) hi.base how;obtain⟨b',hb',hω,hI,cs,elem,hheap,hsz,hall⟩:=(DR hk).1 (hi.slot d c hg);rw[hb] at hb';cases hb';obtain⟨hc',hle⟩:=M9 hup;have hud:u≠d:=fun e=>by rw[e,hk] at huv;simp[SK.val] at huv
 have hω':G'.ω b=some (.slot d none):=(hext1.fix b _ hω (by simp;exact fun e=>hud e.symm)).1
 have hI':∀x,¬G'.I b x:=by rw[e1];exact hI
 have hvc:=bX hrep hsl;have hpc:=TE hsl;rw[hpc] at hle hc'
 let arr:Array Value:=(cs.toList.take off++(at' a u).cells.toList++cs.toList.drop (off+(at' a u).cells.toList.length)).toArray
 have hext2:=Jj (G:=G') (w:=w) (X:=fun tg=>tg=.slot d none) hω' hI' rfl arr
 have hext:Ext (fun tg=>tg=.slot u none∨tg=.slot d none) G G' w (w.setRow b arr):=(hext1.weaken (fun _ h=>.inl h)).trans (hext2.weaken (fun _ h=>.inr h))
 have hrun':(Instr.storeAt t (.pointer (some ⟨b,off,none⟩)) (at' a u)).run P w=.ok () (w.setRow b arr):=
  Gv hn hheap (by rw[hvc];rfl) (Pf hrep (V5 hsl)) (by rw[hsz];simpa using hle)
 have hev:a.eval (.tmp s)=.pointer (some ⟨b,off,none⟩):=hss;have hevu:a.eval (.tmp u)=at' a u:=rfl;rw[hA rfl];refine .inr ⟨w.setRow b arr,?_,G',?_⟩
 ·simp[execOp,ho,hev,hevu,hrun']
 ·rw[hod];refine hi.Y8 (X:=fun tg=>tg=.slot u none∨tg=.slot d none) (T:=fun t=>t=u) (d:=d) (c':=c') none undef (by simp) hk hb ?_ hext (IJ hbase1 hω' hI' _) e2 ?_ (fun t h=>by rw[h];exact huv.2) ?_ ?_
  ·rw[hc'];refine KJ hω' hI' (setRow_heap _ _ _ _ _ _ hheap) hsz hle (by rw[hvc];rfl) ?_ ?_
   ·intro j q hq _;exact((hall j q hq).ext hext1 (by simp)).ext hext2 (by simp)
   ·intro j q hq;cases j with
    |zero=>
     simp at hq;subst hq;exact⟨at' a u,by rw[hvc];rfl,.inl ⟨.one (.inl (hrep.mono hext.I hext.same)),how1.ext hext2 (by simp)⟩⟩
    |succ j=>simp at hq
  ·intro tg h;rcases h with h | h
   ·exact⟨u,none,h,.inr rfl⟩
   ·exact⟨d,none,h,.inl rfl⟩
  ·rw[Eh]
  ·intro r q hq;simp only[AOp.wr,Option.toList,Du,Az,Bj,Dm] at hq;rw[Dk] at hq
   split at hq
   ·rename_i h;cases hq;refine .inr (.inr ?_)
    rw[h.1,BZ huv.2 (by rw[Da];exact JR hsl)]
    exact⟨.one (.inl (hrep.mono hext.I hext.same).Ae),Cr p⟩
   ·rename_i h1;rw[Dk] at hq
    split at hq
    ·rename_i h;cases hq;exact .inl ⟨h.1,rfl⟩
    ·rename_i h2;refine .inr (.inl ⟨fun e=>h2 ⟨e,Qw hg⟩,fun e=>h1 ⟨e,by simp;have:=hi.room;omega⟩,by simp,hq⟩)
theorem rD{d:Nat}{l c:PV}{rs:List (Option PV)}(h:Be (.ldfo d) [l,c]=some rs):∃off v c',l=.lref d off∧c.cells[off]?=some v∧v.Jt=true∧upd c off v.Ae=some c'∧rs=[some v,some c']:=by
 cases l with
 |lref s off=>
  simp only[Be] at h
  split at h
  ·rename_i e;subst e
   split at h
   ·rename_i v hv;cases v<;>first | (cases h;done) | (obtain⟨c',hc',e⟩:=Ac.1 h;exact⟨off,_,c',rfl,hv,rfl,hc',e.symm⟩)
   ·cases h
  ·cases h
 |_=>simp[Be] at h
theorem fF{ps:List PV}{off j:Nat}{x p:PV}(h:(EX ps off [x])[j]?=some p)(hl:off<ps.length):(j=off∧p=x)∨(j≠off∧ps[j]?=some p):=by
 unfold EX at h;have e2:(ps.take off).length=off:=by rw[Ba];omega
 rw[AP] at h;by_cases h1:j<off
 ·rw[Ak (by omega),Cb,if_pos h1] at h
  exact .inr ⟨by omega,h⟩
 ·rw[Ao (by omega),e2] at h
  by_cases h2:j=off
  ·subst h2;simp at h;exact .inl ⟨rfl,h.symm⟩
  ·rw[Ao (by simp;omega),Cw] at h
   refine .inr ⟨h2,?_⟩
   rw[show off+[x].length+(j - off - [x].length)=j from by simp;omega] at h
   exact h
theorem Ul{G':Gh}{b off:Nat}{tag:Option Nat→Tag}{ps:List PV}{v:PV}(hns:v≠.self)(hc:F5 G w b tag ps)(hv:ps[off]?=some v)(hI:G'.I=G.I)(hext:Ext (fun tg=>tg=tag (some off)) G G' w w)(htag:∀i j,tag i=tag j→i=j):
  F5 G' w b tag (EX ps off [v.Ae]):=by
 obtain⟨hω,hnI,cs,elem,hheap,hsz,hall⟩:=hc;have hlt:=(Ad.1 hv).1;refine⟨(hext.fix b _ hω (fun e=>by cases htag _ _ e)).1,by rw[hI];exact hnI,cs,elem,hheap,?_,fun j p hp=>?_⟩
 ·rw[hsz];unfold EX;simp only[Af,Ba,AU,Al,Bo];omega
 ·rcases fF hp hlt with⟨rfl,rfl⟩ | ⟨hj,hp⟩
  ·exact .inl ⟨((hall _ _ hv).rep hns).1.Ae.mono hext.I hext.same hext.bl,Cr v⟩
  ·exact(hall _ _ hp).ext hext (fun e=>hj (by have:=htag _ _ e;simpa using this))
theorem oo(hi:Inv cx G a w A σ)(hkd:∀t,cx.kd t=fi.kind t)(hnt:cx.nt=fi.nt){o:Oper}{t:TypeId}{s d u:Nat}(ho:o.op=.load t (.tmp s))(hod:o.dst=some u){n:Nat}(hn:Cv P t=some (n,false))
  (hu:Dj fi u=true) (hrun:BU pur call { dst:=some u,k:=.p (.ldfo d),args:=[.slot s,.slot d],ex:=[d] } A σ=some (A',σ')):Gives P cx o a w A' σ':=by
 obtain⟨vs,rs,he,hs,rfl,hA⟩:=NG rfl hrun;obtain⟨l,qs,rfl,_,hq⟩:=Ar he;obtain⟨c,qs,rfl,_,hq'⟩:=Ar hq;cases hq';obtain⟨hgs,_⟩:=DT he;obtain⟨hg,_⟩:=DT hq;obtain⟨off,v,c',rfl,hv,hsl,hup,rfl⟩:=rD hs;have huv:=Fx hkd hnt hu;obtain⟨hk,b,hb,hss⟩:=Lc hi hgs;obtain⟨b',hb',hcell⟩:=(DR hk).1 (hi.slot d c hg);rw[hb] at hb';cases hb'
 have hsub:sub c off n false=some v:=by
  simp only[sub,hv];rw[if_neg];intro e;cases v<;>simp[PV.isAgg,PV.isSelf,PV.Jt] at e hsl
 obtain⟨x,hr1,hr2⟩:=IB (P:=P) hn hcell hsub;have hcell':=hcell;obtain⟨hω,hI,cs,elem,hheap,hsz,hall⟩:=hcell;have hlt:off<cs.size:=by have:=(Ad.1 hv).1;omega
 have hx:x=cs.getD off undef:=by
  have:(Instr.loadAt t (.pointer (some ⟨b,off,none⟩))).run P w=.ok (cs.getD off undef) w:=by
   have hcc:w.cell? ⟨b,off,none⟩=some (cs.getD off undef):=by simp[World.cell?,hheap,Array.getD,hlt]
   simp[Instr.loadAt,Instr.sureAddr,loadVar,Jd hn,hcc]
  rw[this] at hr1;cases hr1;rfl
 subst hx;obtain⟨G',e1,e2,hext,hbase,how⟩:=YD (t1:=.slot u none) hi.base ((hall off v hv).rep (Nn hsl)).2;obtain⟨hc',hle⟩:=M9 hup;rw[TE (bZ hsl)] at hc';have hud:u≠d:=fun e=>by rw[e,hk] at huv;simp[SK.val] at huv
 have hev:a.eval (.tmp s)=.pointer (some ⟨b,off,none⟩):=hss;rw[hA rfl];refine .inl ⟨cs.getD off undef,w,by simp[execOp,ho,hev,hr1],G',?_⟩
 rw[hod];refine hi.Y8 (X:=fun tg=>tg=.slot d (some off)) (T:=fun _=>False) (d:=d) (c':=c') (some u) _ (fun u' e=>by cases e;exact huv.2) hk hb ?_ hext hbase e2 ?_ (fun _ h=>h.elim) ?_ ?_
 ·rw[hc'];exact Ul (Nn hsl) hcell' hv e1 hext (fun i j e=>by cases e;rfl)
 ·intro tg h;exact⟨d,some off,h,.inl rfl⟩
 ·rw[Eh]
 ·intro r q hq;simp only[AOp.wr,Option.toList,Du,Az,BI,Bj,Dm] at hq;rw[Dk] at hq
  split at hq
  ·rename_i h;cases hq;exact .inl ⟨h.1,rfl⟩
  ·rename_i h1;rw[Dk] at hq
   split at hq
   ·rename_i h;cases hq;refine .inr (.inr ?_)
    rw[h.1,BZ huv.2 (JR hsl),FO _ _ _ (by rw[hi.size];exact huv.1)]
    exact⟨hr2.mono hext.I hext.same hext.bl,how⟩
   ·rename_i h2;refine .inr (.inl ⟨fun e=>h1 ⟨e,by simp;exact Qw hg⟩,id,fun e=>h2 ⟨(Option.some.inj e).symm,by have:=hi.room;omega⟩,hq⟩)
end
end Go.Abs

namespace Go.Abs
open Go.RowKit
def Gh.shut(G:Gh)(b:Nat)(J:Option Nat→Prop):Gh:=⟨fun b' x=>G.I b' x∨(b'=b∧J x),fun b'=>if b'=b then none else G.ω b',G.bl⟩
section
variable{P:Program}{pur:FuncId→Bool}{call:Caller}{fi:FI}{cx:Cx}{G:Gh}{a:Act}{w:World}{A A':Frm}{σ σ':Sto}
theorem Ny(hb:Base cx G w){b:Nat}{t0:Tag}(hω:G.ω b=some t0)(J:Option Nat→Prop):Base cx (G.shut b J) w:=by
 obtain⟨hlt,hK⟩:=hb.own b t0 hω;refine⟨hb.keep,hb.same,fun b' x h=>.inl (hb.sub b' x h),fun b' x h=>?_,fun b' x h=>?_,fun b' tg h=>?_,hb.Klt,hb.grow,hb.bl,hb.os,hb.tape,hb.output⟩
 ·rcases h with h | ⟨rfl,_⟩
  ·exact hb.new b' x h
  ·exact .inr hK
 ·rcases h with h | ⟨rfl,_⟩
  ·exact hb.lt b' x h
  ·exact hlt
 ·simp only[Gh.shut] at h
  split at h
  ·cases h
  ·exact hb.own b' tg h
theorem TY{X:Tag→Prop}{b:Nat}{t0:Tag}(hω:G.ω b=some t0)(hX:X t0)(J:Option Nat→Prop):Ext X G (G.shut b J) w w:=by
 refine⟨fun _ _ h=>.inl h,Same.refl _ _,Bl.le_refl _,fun _ _ _ _=>rfl,fun b' tg h' hn=>?_⟩
 have hne:b'≠b:=by
  intro e;subst e;rw[hω] at h';cases h';exact hn hX
 refine⟨by simp[Gh.shut,hne,h'],rfl,fun x hx=>?_⟩
 rcases hx with hx | ⟨rfl,_⟩
 ·exact hx
 ·exact absurd rfl hne
theorem Rc{t n:Nat}(hk:(cx.kd t).val=true):Eg cx G a w t (.hole n)↔∃b,at' a t=.pointer (some ⟨b,0,none⟩)∧UI G w b (.slot t none) n:=by
 unfold Eg;cases h:cx.kd t<;>rw[h] at hk<;>first | (simp[SK.val] at hk;done) | exact Iff.rfl
theorem AzJ(hi:Inv cx G a w A σ){o:Oper}{t:TypeId}(ho:o.op=.alloc t){d:Nat}(hod:o.dst=some d)
  (hd:d<cx.nt) (hk:(cx.kd d).val=true) {z:PV} (hz:FH P t=some z) {n:Nat} (hzn:z.cells.length=n)
  (hrun:BU pur call { dst:=some d,k:=.p (.zi n),args:=[] } A σ=some (A',σ')):Gives P cx o a w A' σ':=by
 obtain⟨vs,rs,he,hs,rfl,hA⟩:=NG rfl hrun;cases he;simp only[Be] at hs;cases hs;rw[hA rfl];unfold FH at hz
 split at hz
 ·rename_i it hit;obtain⟨zv,hzv,hzp⟩:=AL.1 hz;have hzr:Rep G.I w zv z:=F8 hzp;refine .inl ⟨.pointer (some ⟨w.heap.size,0,none⟩),w.alloc (.cells zv.cells t),?_,G.LH w.heap.size (fun _=>False) (some (.slot d none)),?_⟩
  ·have hzrun:(zeroValue t).run P w=.ok zv w:=by simp[zeroValue,typeInfo,hit,hzv]
   simp only[execOp,ho,Instr.alloc,Sem.run_bind,hzrun,Result.andThen_ok,newVar,newRow];rfl
  ·rw[hod];refine hi.step (fun tg=>tg=.slot d none) (some d) _ (FN _ hi.base _ _ _) (E9 hi.base _ _ _) (by rw[Eh]) ?_ (fun _ cs hc=>.inl ⟨hc,fun _ h=>by cases h⟩) hi.len hi.abl
   intro s q hq;simp only[AOp.wr,Option.toList,Du,Az,Dm] at hq;rw[Dk] at hq
   split at hq
   ·rename_i h;cases hq;refine .inr ?_
    rw[h.1,Rc hk];refine⟨w.heap.size,FO _ _ _ (by rw[hi.size];exact hd),if_pos rfl,?_,zv.cells,t,heap_alloc_new' _ _,?_⟩
    ·rintro x (h | ⟨_,h⟩)
     ·have:=hi.base.lt _ _ h;omega
     ·exact h
    ·rw[(Gw hzr).1,hzn]
   ·rename_i h;have hsd:s≠d:=fun e=>h ⟨e,by have:=hi.room;omega⟩
    refine .inl ⟨hq,fun e=>hsd (Option.some.inj e).symm,fun j h=>?_,fun d' off e hbx hdd=>?_,fun m hm=>?_⟩
    ·cases h;exact hsd rfl
    ·have:=Option.some.inj hdd;subst this;rw[hbx] at hk;simp[SK.val] at hk
    ·obtain⟨keys,hkm⟩:=cx.ents s m hm;have:m≠d:=fun e=>by rw[e] at hkm;rw[hkm] at hk;simp[SK.val] at hk
     exact⟨fun e=>this (Option.some.inj e).symm,fun e=>by cases e;exact this rfl⟩
 ·cases hz
theorem ve(hi:Inv cx G a w A σ)(hkd:∀t,cx.kd t=fi.kind t){o:Oper}{t:TypeId}{s:Nat}{x:Operand}(ho:o.op=.store t (.tmp s) x)(hod:o.dst=none)(hk:(cx.kd s).val=true){n:Nat}{ag:Bool}(hn:Cv P t=some (n,ag))
  {az:List CQ} (hc:Ap fi [x]=some az) (hrun:BU pur call { dst:=none,k:=.p (.sti n),args:=.slot s::az,ex:=[s] } A σ=some (A',σ')):Gives P cx o a w A' σ':=by
 obtain⟨vs,rs,he,hs,rfl,hA⟩:=NG rfl hrun;obtain⟨y,zs,rfl,hy,hz⟩:=AV hc;cases hz;obtain⟨c,qs,rfl,_,hq⟩:=Ar he;obtain⟨p,qs,rfl,hp,hq⟩:=Ar hq;cases hq;obtain⟨hg,_⟩:=DT he;cases c with
 |hole m=>
  simp only[Be] at hs
  split at hs
  ·rename_i hf;obtain⟨rfl,hf1,hf2,hf3⟩:=hf;cases hs;obtain⟨b,hb,hω,hI,cs,elem,hheap,hsz⟩:=(Rc hk).1 (hi.slot s _ hg);have hrep:=((Bp hi hkd hy hp (IY hf2)).flat hf2).Ae;have hvs:=(Gw hrep).1;rw[Ea,hf1] at hvs
   have hcells:(cs.toList.take 0++(a.eval x).cells.toList++cs.toList.drop (0+(a.eval x).cells.toList.length)).toArray=(a.eval x).cells:=by
    rw[List.take_zero,Cf (by simp;omega)];simp
   have hrun':=Gv (off:=0) hn hheap hvs (Pf hrep (by rw[Jq];exact hf3)) (by omega)
   rw[hcells] at hrun';have hev:a.eval (.tmp s)=.pointer (some ⟨b,0,none⟩):=hb
   let J:Option Nat→Prop:=fun x=>∃o,x=some o
   have hext1:=Jj (G:=G) (w:=w) (X:=fun tg=>tg=.slot s none) hω hI rfl (a.eval x).cells
   have hext2:=TY (G:=G) (w:=w.setRow b (a.eval x).cells) (X:=fun tg=>tg=.slot s none) hω rfl J
   have hext:=hext1.trans hext2;rw[hA rfl];refine .inr ⟨w.setRow b (a.eval x).cells,by simp[execOp,ho,hev,hrun'],G.shut b J,?_⟩
   rw[hod];refine hi.step _ none undef hext (Ny (IJ hi.base hω hI _) hω J) (by rw[Eh]) ?_ (fun _ cs hc=>.inl ⟨hc,fun _ h=>by cases h⟩) hi.len hi.abl
   intro r q hq;simp only[AOp.wr,Option.toList,Du,Az,Bj,Dm] at hq;rw[Dk] at hq
   split at hq
   ·rename_i h;cases hq;refine .inr ?_
    rw[h.1,BZ hk rfl];refine⟨?_,trivial⟩
    show Bz _ _ _ (at' a s) _;rw[hb];refine .one (.inl (.vptr (fun j=>(a.eval x).cells.getD j undef) (fun j q hq=>.inr ⟨rfl,⟨_,rfl⟩⟩) (fun j q hq=>?_) (fun j q hq=>((Gw hrep).2 j q hq).mono hext.I hext.same)))
    have hlt:j<(a.eval x).cells.size:=by have:=(Ad.1 hq).1;rw[Ea] at this;omega
    simp[World.cell?,setRow_heap _ _ _ _ _ _ hheap,Array.getD,hlt]
   ·rename_i h;have hrs:r≠s:=fun e=>h ⟨e,Qw hg⟩
    refine .inl ⟨hq,by simp,fun j h=>by cases h;exact hrs rfl,fun _ _ _ _=>by simp,fun m' hm=>⟨by simp,fun e=>?_⟩⟩
    cases e;obtain⟨keys,hkm⟩:=cx.ents r s hm;rw[hkm] at hk;simp[SK.val] at hk
  ·cases hs
 |_=>simp[Be] at hs
end
end Go.Abs
