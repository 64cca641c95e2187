/- A part of the proof: A6 A7 A8 A9 A10 A11 A12. -/
import Derived.Test.YtngalibidopjlaaGreatDoorKaa
import Derived.Laws.Tables
import Derived.MapKept

set_option linter.unusedVariables false
set_option linter.unusedSimpArgs false
namespace Go.Abs
open Go.RowKit
def FW(ro:Option Nat):Fence:={ fn:=fun _=>True,depth:=none,alive:=false,round:=ro }
theorem opIn_value{ro:Option Nat}{n:Nat}{P:Program}{o:Oper}{a:Act}{w w':World}{K:Act→World→Prop}{Q:Exit→Act→World→Prop}{v:Value}
  (hd:∀c,o.op≠.defer c) (hr:(execOp a.eval o).run P w=.ok (.value v) w') (hk:K (a.put o.dst v) w'):o.wpIn (FW ro) n P a w K Q:=by
 refine⟨fun _ _=>trivial,?_⟩
 rw[Oper.semAt_eq _ _ _ hd,hr];exact hk
theorem opIn_skip{ro:Option Nat}{n:Nat}{P:Program}{o:Oper}{a:Act}{w w':World}{K:Act→World→Prop}{Q:Exit→Act→World→Prop}
  (hd:∀c,o.op≠.defer c) (hr:(execOp a.eval o).run P w=.ok .skip w') (hk:K (a.put o.dst undef) w'):o.wpIn (FW ro) n P a w K Q:=by
 refine⟨fun _ _=>trivial,?_⟩
 rw[Oper.semAt_eq _ _ _ hd,hr];exact hk
section inv
variable{I:Imm}{bl:Bl}{w:World}{v:Value}
theorem RepT.rep{p:PV}(h:RepT I bl w v p)(h1:p.isRef=false)(h2:∀f fs cs,p≠.func f fs cs)(h3:∀vs,p≠.tuple vs)(h4:∀cs,p≠.aggr cs:=by simp):Rep I w v p:=by
 cases h with
 |one h=>
  rcases h with h | h
  ·exact h
  ·cases h<;>cases h1
 |func _ _ _ _=>exact absurd rfl (h2 _ _ _)
 |tuple _ _=>exact absurd rfl (h3 _)
 |aggr _ _=>exact absurd rfl (h4 _)
theorem RepT.AzM{b:Bool}(h:RepT I bl w v (.bool b)):v=.bool b:=by
 cases h.rep rfl (by simp) (by simp);rfl
theorem RepT.AqF{k:IntKind}{n:Int}(h:RepT I bl w v (.int k n)):v=.int k n:=by
 cases h.rep rfl (by simp) (by simp);rfl
theorem RepT.Ax2{l:List UInt8}(h:RepT I bl w v (.str l)):∃s:ByteArray,v=.string s∧s.data.toList=l:=by
 cases h.rep rfl (by simp) (by simp);exact⟨_,rfl,rfl⟩
theorem RepT.AxB(h:RepT I bl w v .nils):v=.slice none 0 0:=by
 cases h.rep rfl (by simp) (by simp);rfl
theorem RepT.nilm_inv(h:RepT I bl w v .nilm):v=.map none:=by
 cases h.rep rfl (by simp) (by simp);rfl
theorem RepT.AjI(h:RepT I bl w v .empt):∃a,v=.slice (some a) 0 0:=by
 cases h.rep rfl (by simp) (by simp);exact⟨_,rfl⟩
theorem RepT.nilf_inv(h:RepT I bl w v .nilf):v=.nilFunc:=by
 cases h.rep rfl (by simp) (by simp);rfl
theorem RepT.agg_inv{ps:List PV}(h:RepT I bl w v (.agg ps)):∃cs:Array Value,v=.agg cs∧cs.size=ps.length∧∀(i:Nat) (p:PV),ps[i]?=some p→Rep I w (cs.getD i undef) p:=by
 cases h.rep rfl (by simp) (by simp) with
 |agg h hr=>exact⟨_,rfl,h,hr⟩
theorem RepT.Ak4{x:PV}(h:RepT I bl w v (.vptr x)):∃b off,∃cv:Nat→Value,v=.pointer (some ⟨b,off,none⟩)∧(∀(j:Nat) (p:PV),x.cells[j]?=some p→I b (some (off+j)))∧
  (∀(j:Nat) (p:PV),x.cells[j]?=some p→w.cell? ⟨b,off+j,none⟩=some (cv j))∧(∀(j:Nat) (p:PV),x.cells[j]?=some p→Rep I w (cv j) p):=by
 cases h.rep rfl (by simp) (by simp) with
 |vptr cv h1 h2 h3=>exact⟨_,_,cv,rfl,h1,h2,h3⟩
theorem RepT.AjK{id off:Nat}(h:RepT I bl w v (.ref id off)):∃b,bl.l[id]?=some b∧v=.pointer (some ⟨b,off,none⟩):=by
 cases h with
 |one h=>
  rcases h with h | h
  ·cases h
  ·cases h with
   |ref h=>exact⟨_,h,rfl⟩
theorem RepT.AjQ{id gen off len size:Nat}(h:RepT I bl w v (.arr id gen off len size)):∃b base n cap b' o',bl.ab id gen=some (b,base,n)∧len≤cap∧
  base+(off+cap) * size≤n∧(0<cap→b'=b∧o'=base+off * size)∧v=.slice (some ⟨b',o',none⟩) len cap:=by
 cases h with
 |one h=>
  rcases h with h | h
  ·cases h
  ·cases h with
   |arr h h1 h2 h3=>exact⟨_,_,_,_,_,_,h,h1,h2,h3,rfl⟩
theorem RepT.AkI{id gen size i off:Nat}(h:RepT I bl w v (.aptr id gen size i off)):∃b base n,bl.ab id gen=some (b,base,n)∧v=.pointer (some ⟨b,base+i * size+off,none⟩):=by
 cases h with
 |one h=>
  rcases h with h | h
  ·cases h
  ·cases h with
   |aptr h=>exact⟨_,_,_,h,rfl⟩
theorem RepT.AkB{id:Nat}(h:RepT I bl w v (.mref id)):∃b,bl.l[id]?=some b∧v=.map (some b):=by
 cases h with
 |one h=>
  rcases h with h | h
  ·cases h
  ·cases h with
   |mref h=>exact⟨_,h,rfl⟩
theorem RepT.tuple_inv{ps:List PV}(h:RepT I bl w v (.tuple ps)):∃cs:Array Value,v=.tuple cs∧cs.size=ps.length∧∀(i:Nat) (p:PV),ps[i]?=some p→Rep1 I bl w (cs.getD i undef) p:=by
 cases h with
 |one h=>
  rcases h with h | h
  ·cases h with
   |tuple h hr=>exact⟨_,rfl,h,fun i p hp=>.inl (hr i p hp)⟩
  ·cases h
 |tuple h hr=>exact⟨_,rfl,h,hr⟩
theorem RepT.aggr_inv{ps:List PV}(h:RepT I bl w v (.aggr ps)):∃cs:Array Value,v=.agg cs∧cs.size=ps.length∧∀(i:Nat) (p:PV),ps[i]?=some p→Rep1 I bl w (cs.getD i undef) p:=by
 cases h with
 |one h=>
  rcases h with h | h
  ·cases h
  ·cases h
 |aggr h hr=>exact⟨_,rfl,h,hr⟩
theorem RepT.AvD{f:FuncId}{first cap:List PV}(h:RepT I bl w v (.func f first cap)):∃fs cs:Array Value,v=.func (.func f) fs cs∧fs.size=first.length∧cs.size=cap.length∧
  (∀(i:Nat) (p:PV),first[i]?=some p→Rep1 I bl w (fs.getD i undef) p)∧(∀(i:Nat) (p:PV),cap[i]?=some p→Rep1 I bl w (cs.getD i undef) p):=by
 cases h with
 |one h=>
  rcases h with h | h
  ·cases h with
   |func h1 h2 hf hc=>exact⟨_,_,rfl,h1,h2,fun i p hp=>.inl (hf i p hp),fun i p hp=>.inl (hc i p hp)⟩
  ·cases h
 |func h1 h2 hf hc=>exact⟨_,_,rfl,h1,h2,hf,hc⟩
theorem RepT.Ax6{own:Bool}{size:Nat}{es:List PV}(h:RepT I bl w v (.slice own size es)):∃a len cap,∃cv:Nat→Nat→Value,v=.slice (some a) len cap∧len=es.length∧len≤cap∧(es≠[]→a.spot=none)∧
  (∀(i:Nat) (e:PV),es[i]?=some e→e.cells.length=size)∧
  (∀(i:Nat) (e:PV) (j:Nat) (p:PV),es[i]?=some e→e.cells[j]?=some p→I a.block (some (a.off+i * size+j)))∧
  (∀(i:Nat) (e:PV) (j:Nat) (p:PV),es[i]?=some e→e.cells[j]?=some p→w.cell? ⟨a.block,a.off+i * size+j,none⟩=some (cv i j))∧
  (∀(i:Nat) (e:PV) (j:Nat) (p:PV),es[i]?=some e→e.cells[j]?=some p→Rep I w (cv i j) p):=by
 cases h.rep rfl (by simp) (by simp) with
 |slice cv h1 h2 h3 h4 h5 h6 h7=>exact⟨_,_,_,cv,rfl,h1,h2,h3,h4,h5,h6,h7⟩
end inv
theorem Rep.own0{I:Imm}{w:World}{v:Value}{p:PV}(h:Rep I w v p):Rep I w v p.own0:=by
 cases h<;>first | exact .slice _ ‹_› ‹_› ‹_› ‹_› ‹_› ‹_› ‹_› | (constructor<;>assumption)
theorem Rep.Aq0{I:Imm}{w:World}{v:Value}{p:PV}(h:Rep I w v p):Rep I w v p.Aq0:=by
 cases h with
 |agg h hr=>
  refine .agg (by simpa using h) fun i p hp=>?_
  rw[List.getElem?_map] at hp
  obtain⟨q,hq,rfl⟩:=Option.map_eq_some_iff.1 hp;exact(hr i q hq).own0
 |slice _ h1 h2 h3 h4 h5 h6 h7=>exact .slice _ h1 h2 h3 h4 h5 h6 h7
 |bool b=>exact .bool b
 |int k n=>exact .int k n
 |str s=>exact .str s
 |nilp=>exact .nilp
 |vptr cv h1 h2 h3=>exact .vptr cv h1 h2 h3
 |nils=>exact .nils
 |empt=>exact .empt
 |nili=>exact .nili
 |nilm=>exact .nilm
 |mapv ix h1 h2 h3 h4 h5 h6 h7=>exact .mapv ix h1 h2 h3 h4 h5 h6 h7
 |nilf=>exact .nilf
 |func h1 h2 h3 h4=>exact .func h1 h2 h3 h4
 |tuple h hr=>exact .tuple h hr
theorem RefOk.Aq0{bl:Bl}{v:Value}{p:PV}(h:RefOk bl v p):p.Aq0=p:=by cases h<;>rfl
theorem RefOk.own0{bl:Bl}{v:Value}{p:PV}(h:RefOk bl v p):p.own0=p:=by cases h<;>rfl
theorem RepT.Aq0{I:Imm}{bl:Bl}{w:World}{v:Value}{p:PV}(h:RepT I bl w v p):RepT I bl w v p.Aq0:=by
 cases h with
 |one h=>
  rcases h with h | h
  ·exact .one (.inl h.Aq0)
  ·exact .one (.inr (by rw[h.Aq0];exact h))
 |func h1 h2 h3 h4=>exact .func h1 h2 h3 h4
 |tuple h hr=>exact .tuple h hr
 |aggr h hr=>
  refine .aggr (by simpa using h) fun i p hp=>?_
  rw[List.getElem?_map] at hp
  obtain⟨q,hq,rfl⟩:=Option.map_eq_some_iff.1 hp;rcases hr i q hq with h' | h'
  ·exact .inl h'.own0
  ·refine .inr ?_
   rw[h'.own0];exact h'
theorem AqA{G:Gh}{w:World}{tag:Tag}{c:Value}(p:PV):OwnOk G w tag c p.Aq0:=by
 cases p<;>exact trivial
theorem OwnOk_own0{G:Gh}{w:World}{tag:Tag}{c:Value}(p:PV):OwnOk G w tag c p.own0:=by
 cases p<;>exact trivial
theorem AqH(p:PV):p.Aq0.free=p.free:=by cases p<;>rfl
theorem AqP(p:PV):p.Aq0.cells.length=p.cells.length:=by cases p<;>simp[PV.Aq0,PV.cells]
theorem AJR{I:Imm}{w:World}{v:Value}{p:PV}(h:AkW v=some p):Rep I w v p:=by
 unfold AkW at h
 split at h<;>first | (cases h;constructor) | cases h
theorem AJQ{I:Imm}{w:World}:∀{vs:List Value} {ps:List PV},AJX vs=some ps→vs.length=ps.length∧∀(i:Nat) (p:PV),ps[i]?=some p→∃v,vs[i]?=some v∧Rep I w v p
 |[],ps,h=>by cases h;exact⟨rfl,fun i p hp=>by simp at hp⟩
 |v::vs,ps,h=>by
  unfold AJX at h
  split at h
  ·rename_i q qs h1 h2;cases h;obtain⟨e,hr⟩:=AJQ (I:=I) (w:=w) h2;refine⟨by simp[e],fun i p hp=>?_⟩
   cases i with
   |zero=>simp at hp;subst hp;exact⟨v,rfl,AJR h1⟩
   |succ i=>simpa using hr i p (by simpa using hp)
  ·cases h
theorem AxF{I:Imm}{w:World}{v:Value}{p:PV}(h:ofVal v=some p):Rep I w v p:=by
 unfold ofVal at h
 split at h
 ·rename_i cs;obtain⟨ps,hps,rfl⟩:=Option.map_eq_some_iff.1 h;obtain⟨e,hr⟩:=AJQ (I:=I) (w:=w) hps;refine .agg (by simpa using e) fun i p hp=>?_
  obtain⟨v,hv,hrep⟩:=hr i p hp
  have:cs.getD i undef=v:=by
   rw[Array.getD_eq_getD_getElem?];rw[Array.getElem?_toList] at hv
   simp[hv]
  rw[this];exact hrep
 ·exact AJR h
theorem free_ofVal0{v:Value}{p:PV}(h:AkW v=some p):p.free=true:=by
 unfold AkW at h
 split at h<;>first | (cases h;rfl) | cases h
theorem AQQ{v:Value}{p:PV}(h:ofVal v=some p):p.free=true:=by
 unfold ofVal at h
 split at h
 ·obtain⟨ps,_,rfl⟩:=Option.map_eq_some_iff.1 h;rfl
 ·exact free_ofVal0 h
def SK.val:SK→Bool
 |.plain | .imm | .obj=>true
 |_=>false
theorem Aq9{cx:Cx}{G:Gh}{a:Act}{w:World}{t:Nat}{v:PV}(hk:(cx.kd t).val=true)(hf:v.free=true):
  AqW cx G a w t v↔(RepT G.I G.bl w (at' a t) v∧OwnOk G w (.slot t none) (at' a t) v):=by
 unfold AqW;cases h:cx.kd t<;>rw[h] at hk<;>simp[SK.val] at hk<;>dsimp only<;>(split<;>first | exact Iff.rfl | (simp[PV.free] at hf))
theorem Aq5{fi:FI}{cx:Cx}{G:Gh}{a:Act}{w:World}{A:Frm}{σ:Sto}(hi:Inv cx G a w A σ)(hkd:∀t,cx.kd t=fi.kind t)
  {x:Operand} {y:AArg} (hc:AxQ fi x=some y) {p:PV} (he:Aq8 A [y]=some [p]) (hf:p.free=true):RepT G.I G.bl w (a.eval x) p:=by
 cases x with
 |tmp t=>
  simp only[AxQ] at hc
  have hy:y=.slot t∧(cx.kd t).val=true:=by
   rw[hkd]
   split at hc<;>first | (rename_i hk;rw[hk];split at hc<;>first | (cases hc;exact⟨rfl,rfl⟩) | cases hc) | cases hc
  obtain⟨rfl,hv⟩:=hy;simp only[Aq8] at he
  split at he
  ·rename_i v vs hg hv';cases hv';cases he;exact((Aq9 hv hf).1 (hi.slot t _ hg)).1
  ·cases he
 |const v=>
  simp only[AxQ] at hc;obtain⟨q,hq,rfl⟩:=Option.map_eq_some_iff.1 hc;simp[Aq8] at he;subst he;exact .one (.inl (AxF hq))
 |func f=>
  simp only[AxQ] at hc;cases hc;simp[Aq8] at he;subst he;exact .one (.inl (.func rfl rfl (fun i p h=>by simp at h) (fun i p h=>by simp at h)))
 |global g=>cases hc
theorem Aq1{A:Frm}{y:AArg}{ys:List AArg}{ps:List PV}(h:Aq8 A (y::ys)=some ps):∃p qs,ps=p::qs∧Aq8 A [y]=some [p]∧Aq8 A ys=some qs:=by
 cases y with
 |slot t=>
  simp only[Aq8] at h ⊢
  split at h
  ·rename_i v vs hg hv;cases h;exact⟨v,vs,rfl,by simp[hg],hv⟩
  ·cases h
 |val v=>
  simp only[Aq8] at h ⊢;obtain⟨qs,hq,rfl⟩:=Option.map_eq_some_iff.1 h;exact⟨v,qs,rfl,rfl,hq⟩
theorem Aq3{fi:FI}{x:Operand}{xs:List Operand}{ys:List AArg}(h:Aq2 fi (x::xs)=some ys):∃y zs,ys=y::zs∧AxQ fi x=some y∧Aq2 fi xs=some zs:=by
 simp only[Aq2] at h
 split at h
 ·rename_i y zs h1 h2;cases h;exact⟨y,zs,rfl,h1,h2⟩
 ·cases h
theorem args_rep{fi:FI}{cx:Cx}{G:Gh}{a:Act}{w:World}{A:Frm}{σ:Sto}(hi:Inv cx G a w A σ)(hkd:∀t,cx.kd t=fi.kind t):
  ∀{xs:List Operand} {ys:List AArg},Aq2 fi xs=some ys→∀{ps:List PV},Aq8 A ys=some ps→(∀p∈ps,p.free=true)→
   xs.length=ps.length∧∀(i:Nat) (x:Operand) (p:PV),xs[i]?=some x→ps[i]?=some p→RepT G.I G.bl w (a.eval x) p
 |[],ys,hc,ps,he,_=>by
  cases hc;cases he;exact⟨rfl,fun i x p h=>by simp at h⟩
 |x::xs,ys,hc,ps,he,hf=>by
  obtain⟨y,zs,rfl,h1,h2⟩:=Aq3 hc;obtain⟨p,qs,rfl,h3,h4⟩:=Aq1 he;obtain⟨hl,hr⟩:=args_rep hi hkd h2 h4 (fun p hp=>hf p (List.mem_cons_of_mem _ hp))
  refine⟨by simp[hl],fun i x' p' hx hp=>?_⟩
  cases i with
  |zero=>simp at hx hp;subst hx hp;exact Aq5 hi hkd h1 h3 (hf _ (List.mem_cons_self ..))
  |succ i=>exact hr i x' p' (by simpa using hx) (by simpa using hp)
def setO(A:Frm)(dst:Option Nat)(p:PV):Frm:=match dst with | some d=>A.set d (some p) | none=>A
theorem Inv.put1{cx:Cx}{G G':Gh}{a:Act}{w w':World}{A:Frm}{σ:Sto}(h:Inv cx G a w A σ)(he:Ext (fun _=>False) G G' w w')(hb:Base cx G' w')
  (hbl:G'.bl=G.bl) (dst:Option Nat) (hdst:∀d,dst=some d→d<cx.nt∧(cx.kd d).val=true) {v:Value} {p:PV} (hf:p.free=true)
  (hr:RepT G'.I G'.bl w' v p) (ho:∀d,dst=some d→OwnOk G' w' (.slot d none) v p):Inv cx G' (a.put dst v) w' (setO A dst p) σ:=by
 refine h.step (fun _=>False) dst v he hb ?_ ?_ (fun _ cs hc=>.inl ⟨hc,fun _ h=>h⟩) (by rw[hbl];exact h.len) (by rw[hbl];exact h.abl)
 ·cases dst<;>simp[setO]
 ·intro t q hq;cases dst with
  |none=>
   exact .inl ⟨hq,by simp,fun _=>id,fun _ _ _ _=>by simp,fun _ _=>⟨by simp,id⟩⟩
  |some d=>
   obtain⟨hd1,hd2⟩:=hdst d rfl;simp only[setO,AqL] at hq
   split at hq
   ·rename_i hc;cases hq;refine .inr ?_
    rw[hc.1,Aq9 hd2 hf,AxH _ _ _ (by rw[h.size];exact hd1)]
    exact⟨hr,ho d rfl⟩
   ·rename_i hc;have hne:d≠t:=fun e=>hc ⟨e.symm,by have:=h.room;omega⟩
    refine .inl ⟨hq,fun e=>hne (Option.some.inj e),fun _=>id,fun d' off e hbx=>?_,fun m hm=>⟨?_,id⟩⟩
    ·intro e';have:=Option.some.inj e';subst this;rw[hbx] at hd2;simp[SK.val] at hd2
    ·intro e';have:=Option.some.inj e';subst this;obtain⟨keys,hk⟩:=cx.ents t d hm;rw[hk] at hd2;simp[SK.val] at hd2
end Go.Abs

namespace Go.Abs
open Go.RowKit
section
variable{P:Program}{pur:FuncId→Bool}{call:Caller}{fi:FI}{cx:Cx}{G:Gh}{a:Act}{w:World}{A A':Frm}{σ σ':Sto}
def Gives(P:Program)(cx:Cx)(o:Oper)(a:Act)(w:World)(A':Frm)(σ':Sto):Prop:=
 (∃v w',(execOp a.eval o).run P w=.ok (.value v) w'∧Sim cx (a.put o.dst v) w' A' σ') ∨
 (∃w',(execOp a.eval o).run P w=.ok .skip w'∧Sim cx (a.put o.dst undef) w' A' σ')
def Kept(d:Option Nat)(a a':Act):Prop:=∀t,d≠some t→at' a' t=at' a t
theorem AwP(a:Act)(d:Option Nat)(v:Value):Kept d a (a.put d v):=fun t h=>AxM a d v t h
theorem Gives.wp{ro:Option Nat}{n:Nat}{o:Oper}{K:Act→World→Prop}{Q:Exit→Act→World→Prop}(h:Gives P cx o a w A' σ')(hd:∀c,o.op≠.defer c)
  (hk:∀a' w',Sim cx a' w' A' σ'→Kept o.dst a a'→K a' w'):o.wpIn (FW ro) n P a w K Q:=by
 rcases h with⟨v,w',h1,h2⟩ | ⟨w',h1,h2⟩
 ·exact opIn_value hd h1 (hk _ _ h2 (AwP _ _ _))
 ·exact opIn_skip hd h1 (hk _ _ h2 (AwP _ _ _))
theorem AqV(hkd:∀t,cx.kd t=fi.kind t)(hnt:cx.nt=fi.nt){d:Option Nat}(h:Aq7 fi d=true):∀t,d=some t→t<cx.nt∧(cx.kd t).val=true:=by
 rintro t rfl
 simp only[Aq7,AqK,Bool.and_eq_true,decide_eq_true_eq] at h;obtain⟨h1,h2⟩:=h;rw[hnt,hkd];refine⟨h1,?_⟩
 split at h2
 ·rename_i hk;rw[hk];rfl
 ·cases h2
theorem mk_some{d:Option Nat}{k:AK}{args:Option (List AArg)}{ex:List Nat}{ao:AOp}(h:mk fi d k args ex=some ao):
  ∃as,args=some as∧ao={ dst:=d,k,args:=as,ex }∧Aq7 fi d=true∧ex.all (AqK fi)=true∧ex.all (fun t=>d != some t)=true:=by
 unfold mk at h
 split at h
 ·rename_i hc;simp only[Bool.and_eq_true] at hc;obtain⟨as,h1,h2⟩:=Option.map_eq_some_iff.1 h;exact⟨as,h1,h2.symm,hc.1.1,hc.1.2,hc.2⟩
 ·cases h
theorem run1{d:Option Nat}{k:PK}{as:List AArg}(h:runA pur call { dst:=d,k:=.p k,args:=as } A σ=some (A',σ')):
  ∃vs rs,Aq8 A as=some vs∧semP k vs=some rs∧σ'=σ∧∀p,rs=[some p]→A'=setO A d p:=by
 unfold runA at h;dsimp only at h
 split at h
 ·rename_i vs hvs;simp only[sem] at h
  split at h
  ·rename_i rs σ₁ hs;obtain⟨rs',hrs,e⟩:=Option.map_eq_some_iff.1 hs;cases e;refine⟨vs,rs,hvs,hrs,?_,?_⟩
   ·split at h
    ·cases h;rfl
    ·split at h<;>cases h;rfl
   ·rintro p rfl
    cases d with
    |none=>
     simp at h;rw[←h.1];rfl
    |some d=>
     simp[AOp.wr,AqO] at h;rw[←h.1];rfl
  ·cases h
 ·cases h
theorem AzR(hi:Inv cx G a w A σ)(hkd:∀t,cx.kd t=fi.kind t)(hnt:cx.nt=fi.nt){o:Oper}{k:PK}{as:List AArg}(hd:Aq7 fi o.dst=true)
  (hrun:runA pur call { dst:=o.dst,k:=.p k,args:=as } A σ=some (A',σ'))
  (hsem:∀vs rs,Aq8 A as=some vs→semP k vs=some rs→∃p v,rs=[some p]∧p.free=true∧(execOp a.eval o).run P w=.ok (.value v) w∧
   RepT G.I G.bl w v p∧∀tag,OwnOk G w tag v p):Gives P cx o a w A' σ':=by
 obtain⟨vs,rs,h1,h2,rfl,h3⟩:=run1 hrun;obtain⟨p,v,rfl,hf,hr,hrep,how⟩:=hsem vs rs h1 h2;rw[h3 p rfl];exact .inl ⟨v,w,hr,G,hi.put1 (Ext.refl _ _ _) hi.base rfl o.dst (AqV hkd hnt hd) hf hrep (fun _ _=>how _)⟩
theorem AzS{p:PV}(h:p.flat=true):p.free=true:=by cases p<;>first | rfl | simp[PV.flat] at h
theorem AwL{G:Gh}{w:World}{tag:Tag}{v:Value}{p:PV}(h:∀sz es,p≠.slice true sz es):OwnOk G w tag v p:=by
 unfold OwnOk;split
 ·exact absurd rfl (h _ _)
 ·trivial
theorem sim_mv(hi:Inv cx G a w A σ)(hkd:∀t,cx.kd t=fi.kind t)(hnt:cx.nt=fi.nt){o:Oper}{x:Operand}(ho:o.op=.move x∨o.op=.assign x)
  {as:List AArg} (hc:Aq2 fi [x]=some as) (hd:Aq7 fi o.dst=true) (hrun:runA pur call { dst:=o.dst,k:=.p .mv,args:=as } A σ=some (A',σ')):Gives P cx o a w A' σ':=by
 refine AzR hi hkd hnt hd hrun fun vs rs he hs=>?_
 obtain⟨y,zs,rfl,hy,hz⟩:=Aq3 hc;cases hz;obtain⟨p,qs,rfl,hp,hq⟩:=Aq1 he;cases hq;simp only[semP] at hs
 split at hs
 ·rename_i hf;cases hs;refine⟨_,a.eval x,rfl,by rw[AqH];exact hf,?_,(Aq5 hi hkd hy hp hf).Aq0,fun _=>AqA p⟩
  rcases ho with ho | ho<;>simp[execOp,ho]
 ·cases hs
theorem sim_pick(hi:Inv cx G a w A σ)(hkd:∀t,cx.kd t=fi.kind t)(hnt:cx.nt=fi.nt){o:Oper}{c x y:Operand}(ho:o.op=.pick c x y)
  {as:List AArg} (hc:Aq2 fi [c,x,y]=some as) (hd:Aq7 fi o.dst=true) (hrun:runA pur call { dst:=o.dst,k:=.p .pick,args:=as } A σ=some (A',σ')):Gives P cx o a w A' σ':=by
 refine AzR hi hkd hnt hd hrun fun vs rs he hs=>?_
 obtain⟨y1,zs,rfl,hy1,hz⟩:=Aq3 hc;obtain⟨y2,zs,rfl,hy2,hz⟩:=Aq3 hz;obtain⟨y3,zs,rfl,hy3,hz⟩:=Aq3 hz;cases hz;obtain⟨p1,qs,rfl,hp1,hq⟩:=Aq1 he;obtain⟨p2,qs,rfl,hp2,hq⟩:=Aq1 hq;obtain⟨p3,qs,rfl,hp3,hq⟩:=Aq1 hq;cases hq;cases p1 with
 |bool b=>
  have hb:=(Aq5 hi hkd hy1 hp1 rfl).AzM;cases b
  ·simp only[semP] at hs;simp only[Bool.false_eq_true,if_false] at hs
   split at hs
   ·rename_i hf;cases hs;refine⟨_,a.eval y,rfl,by rw[AqH];exact hf,?_,(Aq5 hi hkd hy3 hp3 hf).Aq0,fun _=>AqA _⟩
    simp[execOp,ho,hb,asBool]
   ·cases hs
  ·simp only[semP] at hs;simp only[if_true] at hs
   split at hs
   ·rename_i hf;cases hs;refine⟨_,a.eval x,rfl,by rw[AqH];exact hf,?_,(Aq5 hi hkd hy2 hp2 hf).Aq0,fun _=>AqA _⟩
    simp[execOp,ho,hb,asBool]
   ·cases hs
 |_=>simp[semP] at hs
theorem sim_not(hi:Inv cx G a w A σ)(hkd:∀t,cx.kd t=fi.kind t)(hnt:cx.nt=fi.nt){o:Oper}{t:TypeId}{x:Operand}(ho:o.op=.unOp .not t x)
  {as:List AArg} (hc:Aq2 fi [x]=some as) (hd:Aq7 fi o.dst=true) (hrun:runA pur call { dst:=o.dst,k:=.p .not,args:=as } A σ=some (A',σ')):Gives P cx o a w A' σ':=by
 refine AzR hi hkd hnt hd hrun fun vs rs he hs=>?_
 obtain⟨y,zs,rfl,hy,hz⟩:=Aq3 hc;cases hz;obtain⟨p,qs,rfl,hp,hq⟩:=Aq1 he;cases hq;cases p with
 |bool b=>
  have hb:=(Aq5 hi hkd hy hp rfl).AzM;simp only[semP] at hs;cases hs;exact⟨_,.bool (!b),rfl,rfl,by simp[execOp,ho,hb,Op.unary],.one (.inl (.bool _)),fun _=>trivial⟩
 |_=>simp[semP] at hs
theorem sim_ext(hi:Inv cx G a w A σ)(hkd:∀t,cx.kd t=fi.kind t)(hnt:cx.nt=fi.nt){o:Oper}{i:Nat}{x:Operand}(ho:o.op=.extract x i)
  {as:List AArg} (hc:Aq2 fi [x]=some as) (hd:Aq7 fi o.dst=true) (hrun:runA pur call { dst:=o.dst,k:=.p (.ext i),args:=as } A σ=some (A',σ')):Gives P cx o a w A' σ':=by
 refine AzR hi hkd hnt hd hrun fun vs rs he hs=>?_
 obtain⟨y,zs,rfl,hy,hz⟩:=Aq3 hc;cases hz;obtain⟨p,qs,rfl,hp,hq⟩:=Aq1 he;cases hq;cases p with
 |tuple ps=>
  obtain⟨cs,hv,hsz,hr⟩:=(Aq5 hi hkd hy hp rfl).tuple_inv;simp only[semP] at hs
  split at hs
  ·rename_i hf;obtain⟨q,hq,e⟩:=Option.map_eq_some_iff.1 hs;cases e;have hlt:=(List.getElem?_eq_some_iff.1 hq).1
   have hlt':i<cs.size:=by omega
   refine⟨_,cs.getD i undef,rfl,?_,?_,(RepT.one (hr i q hq)).Aq0,fun _=>AqA q⟩
   ·rw[AqH];have:q∈ps:=List.mem_of_getElem? hq;have:=List.all_eq_true.1 hf q this;exact this
   ·simp[execOp,ho,hv,Instr.extract,hlt',Array.getD]
  ·cases hs
 |_=>simp[semP] at hs
theorem sim_chk(hi:Inv cx G a w A σ)(hkd:∀t,cx.kd t=fi.kind t)(hnt:cx.nt=fi.nt){o:Oper}{x:Operand}(ho:o.op=.nilCheck x)
  {as:List AArg} (hc:Aq2 fi [x]=some as) (hd:Aq7 fi o.dst=true) (hrun:runA pur call { dst:=o.dst,k:=.p .chk,args:=as } A σ=some (A',σ')):Gives P cx o a w A' σ':=by
 refine AzR hi hkd hnt hd hrun fun vs rs he hs=>?_
 obtain⟨y,zs,rfl,hy,hz⟩:=Aq3 hc;cases hz;obtain⟨p,qs,rfl,hp,hq⟩:=Aq1 he;cases hq;cases p with
 |vptr q=>
  have h:=Aq5 hi hkd hy hp rfl;obtain⟨b,off,cv,hv,_⟩:=h.Ak4;simp only[semP] at hs;cases hs;exact⟨_,a.eval x,rfl,rfl,by simp[execOp,ho,hv],h,fun _=>trivial⟩
 |ref id off=>
  have h:=Aq5 hi hkd hy hp rfl;obtain⟨b,_,hv⟩:=h.AjK;simp only[semP] at hs;cases hs;exact⟨_,a.eval x,rfl,rfl,by simp[execOp,ho,hv],h,fun _=>trivial⟩
 |aptr id gen size i off=>
  have h:=Aq5 hi hkd hy hp rfl;obtain⟨b,_,_,_,hv⟩:=h.AkI;simp only[semP] at hs;cases hs;exact⟨_,a.eval x,rfl,rfl,by simp[execOp,ho,hv],h,fun _=>trivial⟩
 |func f fs cs=>
  have h:=Aq5 hi hkd hy hp rfl;obtain⟨vs,ws,hv,_⟩:=h.AvD;simp only[semP] at hs;cases hs;exact⟨_,a.eval x,rfl,rfl,by simp[execOp,ho,hv],h,fun _=>trivial⟩
 |_=>simp[semP] at hs
theorem sim_cvt(hi:Inv cx G a w A σ)(hkd:∀t,cx.kd t=fi.kind t)(hnt:cx.nt=fi.nt){o:Oper}{s t:TypeId}{k k':IntKind}{x:Operand}(ho:o.op=.convert s t x)
  (hs':P.underlying s=some (.int k')) (ht:P.underlying t=some (.int k))
  {as:List AArg} (hc:Aq2 fi [x]=some as) (hd:Aq7 fi o.dst=true) (hrun:runA pur call { dst:=o.dst,k:=.p (.cvt k),args:=as } A σ=some (A',σ')):Gives P cx o a w A' σ':=by
 refine AzR hi hkd hnt hd hrun fun vs rs he hs=>?_
 obtain⟨y,zs,rfl,hy,hz⟩:=Aq3 hc;cases hz;obtain⟨p,qs,rfl,hp,hq⟩:=Aq1 he;cases hq;cases p with
 |int j n=>
  have hv:=(Aq5 hi hkd hy hp rfl).AqF;simp only[semP] at hs;cases hs;exact⟨_,.int k (k.wrap n),rfl,rfl,by simp[execOp,ho,hv,convert,underlying,hs',ht,Conv.intToInt],.one (.inl (.int _ _)),fun _=>trivial⟩
 |_=>simp[semP] at hs
end
end Go.Abs

namespace Go.Abs
open Go.RowKit
section
variable{P:Program}{pur:FuncId→Bool}{call:Caller}{fi:FI}{cx:Cx}{G:Gh}{a:Act}{w:World}{A A':Frm}{σ σ':Sto}
theorem args1{xs:List Operand}{as:List AArg}(hc:Aq2 fi xs=some as){p:PV}(he:Aq8 A as=some [p]):
  ∃x y,xs=[x]∧as=[y]∧AxQ fi x=some y∧Aq8 A [y]=some [p]:=by
 cases xs with
 |nil=>cases hc;cases he
 |cons x xs=>
  obtain⟨y,zs,rfl,hy,hz⟩:=Aq3 hc;obtain⟨q,qs,e,hq,hqs⟩:=Aq1 he;cases e;cases xs with
  |nil=>cases hz;exact⟨x,y,rfl,rfl,hy,hq⟩
  |cons x' xs=>
   obtain⟨y',zs',rfl,_,_⟩:=Aq3 hz;obtain⟨_,_,e,_,_⟩:=Aq1 hqs;cases e
theorem args2{xs:List Operand}{as:List AArg}(hc:Aq2 fi xs=some as){p q:PV}(he:Aq8 A as=some [p,q]):
  ∃x x' y y',xs=[x,x']∧as=[y,y']∧AxQ fi x=some y∧AxQ fi x'=some y'∧Aq8 A [y]=some [p]∧Aq8 A [y']=some [q]:=by
 cases xs with
 |nil=>cases hc;cases he
 |cons x xs=>
  obtain⟨y,zs,rfl,hy,hz⟩:=Aq3 hc;obtain⟨_,qs,e,hq,hqs⟩:=Aq1 he;cases e;obtain⟨x',y',rfl,rfl,h1,h2⟩:=args1 hz hqs;exact⟨x,x',y,y',rfl,rfl,hy,h1,hq,h2⟩
theorem AZ3(op:BinOp)(t:TypeId)(x y:Operand)(k k':IntKind)(n m:Int):(eqGuard op t x y (.int k n) (.int k' m)).run P w=.ok () w:=by
 cases op<;>rfl
theorem AZ2(op:BinOp)(t:TypeId)(x y:Operand)(s s':ByteArray):(eqGuard op t x y (.string s) (.string s')).run P w=.ok () w:=by
 cases op<;>rfl
theorem AXE(op:BinOp)(t:TypeId)(x y:Operand)(s s':Bool):(eqGuard op t x y (.bool s) (.bool s')).run P w=.ok () w:=by
 cases op<;>rfl
theorem AXD(op:BinOp)(t:TypeId)(x y:Operand)(f:Fn)(vs ws:Array Value):(eqGuard op t x y (.func f vs ws) .nilFunc).run P w=.ok () w:=by
 cases op<;>rfl
theorem AXC(op:BinOp)(t:TypeId)(x y:Operand):(eqGuard op t x y .nilFunc .nilFunc).run P w=.ok () w:=by
 cases op<;>rfl
theorem binOp_int0(op:BinOp)(t:TypeId)(k k':IntKind)(n m:Int):Go.binOp op t (.int k n) (.int k' m)=Go.binOp op 0 (.int k n) (.int k' m):=by
 cases op<;>rfl
theorem run_binI{op:BinOp}{t:TypeId}{k:IntKind}{n m:Int}{p:PV}(h:binI op k n m=some p):∃v,(Go.binOp op t (.int k n) (.int k m)).run P w=.ok v w∧Rep G.I w v p∧∀sz es,p≠.slice true sz es:=by
 have gen:(match Go.binOp op 0 (.int k n) (.int k m) with | .pure (.int k' n)=>some (PV.int k' n) | _=>none)=some p→∃v,(Go.binOp op t (.int k n) (.int k m)).run P w=.ok v w∧Rep G.I w v p∧∀sz es,p≠.slice true sz es:=by
  intro h;rw[binOp_int0]
  split at h
  ·rename_i k' n' he;cases h;rw[he];exact⟨_,rfl,.int _ _,by simp⟩
  ·cases h
 cases op<;>simp only[binI] at h<;>first
  |exact gen h
  |(cases h;exact⟨.int _ _,by simp[Go.binOp,Op.intArith];rfl,.int _ _,by simp⟩)
  |(cases h;exact⟨.int _ _,by simp[Go.binOp,Op.intArith],.int _ _,by simp⟩)
  |(cases h;exact⟨.bool _,by simp[Go.binOp,Op.intCmp];rfl,.bool _,by simp⟩)
  |(cases h;exact⟨.bool _,by simp[Go.binOp,Op.intCmp],.bool _,by simp⟩)
theorem data_append(x y:ByteArray):(x++y).data.toList=x.data.toList++y.data.toList:=by
 simp
theorem run_binS{op:BinOp}{t:TypeId}{x y:ByteArray}{p:PV}(h:binS op x.data.toList y.data.toList=some p):∃v,(Go.binOp op t (.string x) (.string y)).run P w=.ok v w∧Rep G.I w v p∧∀sz es,p≠.slice true sz es:=by
 cases op with
 |add=>
  simp only[binS] at h
  split at h
  ·rename_i hl;cases h;refine⟨.string (x++y),?_,?_,by simp⟩
   ·have h1:=Lib.size_eq x;have h2:=Lib.size_eq y
    have:¬(((x.size+y.size:Nat):Int) > IntKind.i64.max):=by
     unfold maxStr at hl;have:IntKind.i64.max=9223372036854775807:=by decide
     rw[this];omega
    simp only[Go.binOp,Op.stringOp];rw[if_neg this];rfl
   ·rw[←data_append];exact .str _
  ·cases h
 |eql=>cases h;exact⟨.bool _,by simp only[Go.binOp,Op.stringOp,ByteArray.toList_eq];rfl,.bool _,by simp⟩
 |neq=>cases h;exact⟨.bool _,by simp only[Go.binOp,Op.stringOp,ByteArray.toList_eq];rfl,.bool _,by simp⟩
 |lss=>cases h;exact⟨.bool _,by simp only[Go.binOp,Op.stringOp,ByteArray.toList_eq];rfl,.bool _,by simp⟩
 |leq=>cases h;exact⟨.bool _,by simp only[Go.binOp,Op.stringOp,ByteArray.toList_eq];rfl,.bool _,by simp⟩
 |gtr=>cases h;exact⟨_,by simp only[Go.binOp,Op.stringOp,ByteArray.toList_eq];rfl,.bool _,by simp⟩
 |geq=>cases h;exact⟨.bool _,by simp only[Go.binOp,Op.stringOp,ByteArray.toList_eq];rfl,.bool _,by simp⟩
 |_=>simp[binS] at h
theorem run_equal_bool{t:TypeId}(ht:P.underlying t=some .bool)(x y:Bool):(Op.equal t (.bool x) (.bool y)).run P w=.ok (x==y) w:=by
 show(Op.equalIn (9999+1) t (.bool x) (.bool y)).run P w=_;generalize 9999=d;simp[Op.equalIn,underlying,ht]
theorem AvM{t:TypeId}{ps rs:Array TypeId}{va:Bool}(ht:P.underlying t=some (.func ps rs va))(f:Fn)(vs ws:Array Value):(Op.equal t (.func f vs ws) .nilFunc).run P w=.ok false w:=by
 show(Op.equalIn (9999+1) t _ _).run P w=_;generalize 9999=d;simp[Op.equalIn,underlying,ht]
theorem AvL{t:TypeId}{ps rs:Array TypeId}{va:Bool}(ht:P.underlying t=some (.func ps rs va)):(Op.equal t .nilFunc .nilFunc).run P w=.ok true w:=by
 show(Op.equalIn (9999+1) t _ _).run P w=_;generalize 9999=d;simp[Op.equalIn,underlying,ht]
theorem binOp_eql{t:TypeId}{x y:Value}{b:Bool}(h:(Op.equal t x y).run P w=.ok b w)(hx:Go.binOp .eql t x y=(do pure (.bool (←Op.equal t x y)))):(Go.binOp .eql t x y).run P w=.ok (.bool b) w:=by
 rw[hx];simp only[Sem.run_bind,h,Result.andThen_ok,Sem.run_pure]
theorem binOp_neq{t:TypeId}{x y:Value}{b:Bool}(h:(Op.equal t x y).run P w=.ok b w)(hx:Go.binOp .neq t x y=(do pure (.bool (!(←Op.equal t x y))))):(Go.binOp .neq t x y).run P w=.ok (.bool !b) w:=by
 rw[hx];simp only[Sem.run_bind,h,Result.andThen_ok,Sem.run_pure]
theorem run_binB{op:BinOp}{t:TypeId}(ht:P.underlying t=some .bool){x y:Bool}{p:PV}(h:binB op x y=some p):∃v,(Go.binOp op t (.bool x) (.bool y)).run P w=.ok v w∧Rep G.I w v p∧∀sz es,p≠.slice true sz es:=by
 cases op with
 |eql=>cases h;exact⟨_,binOp_eql (run_equal_bool ht x y) rfl,.bool _,by simp⟩
 |neq=>cases h;exact⟨_,binOp_neq (run_equal_bool ht x y) rfl,.bool _,by simp⟩
 |_=>simp[binB] at h
theorem sim_bin(hi:Inv cx G a w A σ)(hkd:∀t,cx.kd t=fi.kind t)(hnt:cx.nt=fi.nt){o:Oper}{op:BinOp}{t yt:TypeId}{x y:Operand}(ho:o.op=.binOp op t x y yt)
  {c:Nat} (hbt:c=1→P.underlying t=some .bool) (hft:c=2→∃ps rs v,P.underlying t=some (.func ps rs v))
  {as:List AArg} (hc:Aq2 fi [x,y]=some as) (hd:Aq7 fi o.dst=true) (hrun:runA pur call { dst:=o.dst,k:=.p (.bin op c),args:=as } A σ=some (A',σ')):Gives P cx o a w A' σ':=by
 refine AzR hi hkd hnt hd hrun fun vs rs he hs=>?_
 obtain⟨y1,zs,rfl,hy1,hz⟩:=Aq3 hc;obtain⟨y2,zs,rfl,hy2,hz⟩:=Aq3 hz;cases hz;obtain⟨p1,qs,rfl,hp1,hq⟩:=Aq1 he;obtain⟨p2,qs,rfl,hp2,hq⟩:=Aq1 hq;cases hq
 have fin:∀{p:PV},(eqGuard op t x y (a.eval x) (a.eval y)).run P w=.ok () w→(∃v,(Go.binOp op t (a.eval x) (a.eval y)).run P w=.ok v w∧Rep G.I w v p∧∀sz es,p≠.slice true sz es)→p.free=true→
   ∃v,(execOp a.eval o).run P w=.ok (.value v) w∧RepT G.I G.bl w v p∧∀tag,OwnOk G w tag v p:=by
  rintro p hg ⟨v,hr,hrep,hno⟩ hf
  exact⟨v,by simp[execOp,ho,hg,hr],.one (.inl hrep),fun _=>AwL hno⟩
 simp only[semP] at hs
 split at hs
 case isFalse=>cases hs
 rename_i hty;obtain⟨p,hb,e⟩:=Option.map_eq_some_iff.1 hs;cases e
 suffices h:(eqGuard op t x y (a.eval x) (a.eval y)).run P w=.ok () w∧∃v,(Go.binOp op t (a.eval x) (a.eval y)).run P w=.ok v w∧Rep G.I w v p∧(∀sz es,p≠.slice true sz es) by
  obtain⟨hg,v,hr,hrep,hno⟩:=h;have hfree:p.free=true:=by cases hrep<;>rfl
  obtain⟨v,h1,h2,h3⟩:=fin hg ⟨v,hr,hrep,hno⟩ hfree;exact⟨_,v,rfl,hfree,h1,h2,h3⟩
 cases p1 with
 |int k n=>
  cases p2 with
  |int k' m=>
   have e1:=(Aq5 hi hkd hy1 hp1 rfl).AqF;have e2:=(Aq5 hi hkd hy2 hp2 rfl).AqF;simp only[binV] at hb;rw[e1,e2];refine⟨AZ3 ..,?_⟩
   split at hb
   ·split at hb
    ·rename_i k2 n2 hb';cases hb;exact⟨.int k2 n2,by rw[binOp_int0,hb'];rfl,.int _ _,by simp⟩
    ·cases hb
   ·split at hb
    ·rename_i hk;subst hk;exact run_binI hb
    ·cases hb
  |_=>simp[binV] at hb
 |str l=>
  cases p2 with
  |str l'=>
   obtain⟨s1,e1,rfl⟩:=(Aq5 hi hkd hy1 hp1 rfl).Ax2;obtain⟨s2,e2,rfl⟩:=(Aq5 hi hkd hy2 hp2 rfl).Ax2;simp only[binV] at hb;rw[e1,e2];exact⟨AZ2 ..,run_binS hb⟩
  |_=>simp[binV] at hb
 |bool b=>
  cases p2 with
  |bool b'=>
   have e1:=(Aq5 hi hkd hy1 hp1 rfl).AzM;have e2:=(Aq5 hi hkd hy2 hp2 rfl).AzM;have htb:=hbt (by simpa [tyOk] using hty)
   simp only[binV] at hb;rw[e1,e2];exact⟨AXE ..,run_binB htb hb⟩
  |_=>simp[binV] at hb
 |func f fs cs=>
  cases p2 with
  |nilf=>
   obtain⟨vs,ws,e1,_⟩:=(Aq5 hi hkd hy1 hp1 rfl).AvD;have e2:=(Aq5 hi hkd hy2 hp2 rfl).nilf_inv;obtain⟨ps,rs',va,htf⟩:=hft (by simpa [tyOk] using hty)
   rw[e1,e2];refine⟨AXD ..,?_⟩
   cases op<;>simp[binV] at hb<;>subst hb
   ·exact⟨.bool false,binOp_eql (AvM htf ..) rfl,.bool _,by simp⟩
   ·exact⟨.bool true,binOp_neq (AvM htf ..) rfl,.bool _,by simp⟩
  |_=>simp[binV] at hb
 |nilf=>
  cases p2 with
  |nilf=>
   have e1:=(Aq5 hi hkd hy1 hp1 rfl).nilf_inv;have e2:=(Aq5 hi hkd hy2 hp2 rfl).nilf_inv;obtain⟨ps,rs',va,htf⟩:=hft (by simpa [tyOk] using hty)
   rw[e1,e2];refine⟨AXC ..,?_⟩
   cases op<;>simp[binV] at hb<;>subst hb
   ·exact⟨.bool true,binOp_eql (AvL htf) rfl,.bool _,by simp⟩
   ·exact⟨.bool false,binOp_neq (AvL htf) rfl,.bool _,by simp⟩
  |_=>simp[binV] at hb
 |_=>simp[binV] at hb
end
end Go.Abs

namespace Go.Abs
open Go.RowKit
section
variable{P:Program}{pur:FuncId→Bool}{call:Caller}{fi:FI}{cx:Cx}{G:Gh}{a:Act}{w:World}{A A':Frm}{σ σ':Sto}
theorem Ax3{o:Oper}{c:Call}{b:Builtin}(ho:o.op=.call c)(hb:c.callee=.builtin b):
  ∃consts,(execOp a.eval o).run P w=(builtin b c.argTypes o.type consts (c.args.map a.eval)).run P w:=by
 simp only[execOp,ho,resolve,hb,invoke,Sem.run_bind,Sem.run_pure,Result.andThen_ok];exact⟨_,rfl⟩
theorem gives2(hi:Inv cx G a w A σ)(hkd:∀t,cx.kd t=fi.kind t)(hnt:cx.nt=fi.nt){o:Oper}{k:PK}{xs:List Operand}{as:List AArg}(hd:Aq7 fi o.dst=true)
  (hrun:runA pur call { dst:=o.dst,k:=.p k,args:=as } A σ=some (A',σ')) (hc:Aq2 fi xs=some as)
  {V:PV→PV→Option PV} (hk2:∀vs rs,semP k vs=some rs→∃p q r,vs=[p,q]∧V p q=some r∧rs=[some r])
  (hsem:∀x y p q r,xs=[x,y]→V p q=some r→(p.free=true→RepT G.I G.bl w (a.eval x) p)→(q.free=true→RepT G.I G.bl w (a.eval y) q)→
   r.free=true∧∃v,(execOp a.eval o).run P w=.ok (.value v) w∧RepT G.I G.bl w v r∧∀tag,OwnOk G w tag v r):Gives P cx o a w A' σ':=by
 refine AzR hi hkd hnt hd hrun fun vs rs he hs=>?_
 obtain⟨p,q,r,rfl,hv,rfl⟩:=hk2 vs rs hs;obtain⟨x,x',y,y',rfl,rfl,h1,h2,h3,h4⟩:=args2 hc he;obtain⟨hf,v,h5,h6,h7⟩:=hsem x x' p q r rfl hv (fun hf=>Aq5 hi hkd h1 h3 hf) (fun hf=>Aq5 hi hkd h2 h4 hf)
 exact⟨r,v,rfl,hf,h5,h6,h7⟩
theorem gives1(hi:Inv cx G a w A σ)(hkd:∀t,cx.kd t=fi.kind t)(hnt:cx.nt=fi.nt){o:Oper}{k:PK}{xs:List Operand}{as:List AArg}(hd:Aq7 fi o.dst=true)
  (hrun:runA pur call { dst:=o.dst,k:=.p k,args:=as } A σ=some (A',σ')) (hc:Aq2 fi xs=some as)
  {V:PV→Option PV} (hk2:∀vs rs,semP k vs=some rs→∃p r,vs=[p]∧V p=some r∧rs=[some r])
  (hsem:∀x p r,xs=[x]→V p=some r→(p.free=true→RepT G.I G.bl w (a.eval x) p)→
   r.free=true∧∃v,(execOp a.eval o).run P w=.ok (.value v) w∧RepT G.I G.bl w v r∧∀tag,OwnOk G w tag v r):Gives P cx o a w A' σ':=by
 refine AzR hi hkd hnt hd hrun fun vs rs he hs=>?_
 obtain⟨p,r,rfl,hv,rfl⟩:=hk2 vs rs hs;obtain⟨x,y,rfl,rfl,h1,h3⟩:=args1 hc he;obtain⟨hf,v,h5,h6,h7⟩:=hsem x p r rfl hv (fun hf=>Aq5 hi hkd h1 h3 hf)
 exact⟨r,v,rfl,hf,h5,h6,h7⟩
theorem AJK{k:PK}{V:PV→PV→Option PV}(h2:∀p q,semP k [p,q]=(V p q).map fun v=>[some v])(h0:semP k []=none)(h1:∀p,semP k [p]=none)(h3:∀p q r l,semP k (p::q::r::l)=none):
  ∀vs rs,semP k vs=some rs→∃p q r,vs=[p,q]∧V p q=some r∧rs=[some r]:=by
 intro vs rs h
 match vs with
 |[]=>rw[h0] at h;cases h
 |[p]=>rw[h1] at h;cases h
 |[p,q]=>
  rw[h2] at h;obtain⟨r,hr,e⟩:=Option.map_eq_some_iff.1 h;exact⟨p,q,r,rfl,hr,e.symm⟩
 |p::q::r::l=>rw[h3] at h;cases h
theorem one_of{k:PK}{V:PV→Option PV}(h1:∀p,semP k [p]=(V p).map fun v=>[some v])(h0:semP k []=none)(h3:∀p q l,semP k (p::q::l)=none):
  ∀vs rs,semP k vs=some rs→∃p r,vs=[p]∧V p=some r∧rs=[some r]:=by
 intro vs rs h
 match vs with
 |[]=>rw[h0] at h;cases h
 |[p]=>
  rw[h1] at h;obtain⟨r,hr,e⟩:=Option.map_eq_some_iff.1 h;exact⟨p,r,rfl,hr,e.symm⟩
 |p::q::l=>rw[h3] at h;cases h
theorem sim_len(hi:Inv cx G a w A σ)(hkd:∀t,cx.kd t=fi.kind t)(hnt:cx.nt=fi.nt){o:Oper}{c:Call}(ho:o.op=.call c)(hb:c.callee=.builtin .len){st:Bool}
  (ht:(st=true∧c.argTypes.toList.map P.underlying=[some .string])∨(st=false∧∃e,c.argTypes.toList.map P.underlying=[some (.slice e)]))
  {as:List AArg} (hc:Aq2 fi c.args.toList=some as) (hd:Aq7 fi o.dst=true) (hrun:runA pur call { dst:=o.dst,k:=.p (.len st),args:=as } A σ=some (A',σ')):Gives P cx o a w A' σ':=by
 refine gives1 hi hkd hnt hd hrun hc (one_of (V:=lenV st) (fun _=>rfl) rfl (fun _ _ _=>rfl)) fun x p r hx hv hp=>?_
 have hx':c.args=#[x]:=by apply Array.toList_inj.1;simpa using hx
 obtain⟨consts,hr⟩:=Ax3 (P:=P) (w:=w) (a:=a) ho hb;rw[hx'] at hr
 have htt:∃t,c.argTypes=#[t]∧((st=true∧P.underlying t=some .string)∨(st=false∧∃e,P.underlying t=some (.slice e))):=by
  rcases ht with⟨h,ht⟩ | ⟨h,e,ht⟩<;>(
   cases hl:c.argTypes.toList with
   |nil=>rw[hl] at ht;simp at ht
   |cons t r=>cases r with
    |nil=>
     rw[hl] at ht;simp at ht;refine⟨t,by apply Array.toList_inj.1;simpa using hl,?_⟩
     first | exact .inl ⟨h,ht⟩ | exact .inr ⟨h,e,ht⟩
    |cons _ _=>rw[hl] at ht;simp at ht)
 obtain⟨t,htt,hu⟩:=htt;clear ht;rw[htt] at hr;cases p with
 |str l=>
  obtain⟨s,e,rfl⟩:=(hp rfl).Ax2;simp only[lenV] at hv;rcases hu with⟨rfl,hu⟩ | ⟨rfl,_⟩
  ·simp at hv;subst hv;refine⟨rfl,.int .i64 s.data.toList.length,?_,.one (.inl (.int _ _)),fun _=>trivial⟩
   rw[hr,←Lib.size_eq];simp[builtin,Builtin.len_,e,underlying,hu,goInt]
  ·simp at hv
 |slice own sz es=>
  obtain⟨b,len,cap,cv,e,e1,_⟩:=(hp rfl).Ax6;simp only[lenV] at hv;rcases hu with⟨rfl,_⟩ | ⟨rfl,el,hu⟩
  ·simp at hv
  ·simp at hv;subst hv;refine⟨rfl,.int .i64 es.length,?_,.one (.inl (.int _ _)),fun _=>trivial⟩
   rw[hr];simp[builtin,Builtin.len_,e,underlying,hu,goInt,e1]
 |arr id gen off len sz=>
  obtain⟨b,base,n,cap,b',o',_,_,_,_,e⟩:=(hp rfl).AjQ;simp only[lenV] at hv;rcases hu with⟨rfl,_⟩ | ⟨rfl,el,hu⟩
  ·simp at hv
  ·simp at hv;subst hv;refine⟨rfl,.int .i64 len,?_,.one (.inl (.int _ _)),fun _=>trivial⟩
   rw[hr];simp[builtin,Builtin.len_,e,underlying,hu,goInt]
 |empt=>
  obtain⟨ad,e⟩:=(hp rfl).AjI;simp only[lenV] at hv;rcases hu with⟨rfl,_⟩ | ⟨rfl,el,hu⟩
  ·simp at hv
  ·simp at hv;subst hv;refine⟨rfl,.int .i64 0,?_,.one (.inl (.int _ _)),fun _=>trivial⟩
   rw[hr];simp[builtin,Builtin.len_,e,underlying,hu,goInt]
 |nils=>
  have e:=(hp rfl).AxB;simp only[lenV] at hv;rcases hu with⟨rfl,_⟩ | ⟨rfl,el,hu⟩
  ·simp at hv
  ·simp at hv;subst hv;refine⟨rfl,.int .i64 0,?_,.one (.inl (.int _ _)),fun _=>trivial⟩
   rw[hr];simp[builtin,Builtin.len_,e,underlying,hu,goInt]
 |_=>simp[lenV] at hv
theorem sim_cap0(hi:Inv cx G a w A σ)(hkd:∀t,cx.kd t=fi.kind t)(hnt:cx.nt=fi.nt){o:Oper}{c:Call}(ho:o.op=.call c)(hb:c.callee=.builtin .cap)
  (ht:∃e,c.argTypes.toList.map P.underlying=[some (.slice e)])
  {as:List AArg} (hc:Aq2 fi c.args.toList=some as) (hd:Aq7 fi o.dst=true) (hrun:runA pur call { dst:=o.dst,k:=.p .cap0,args:=as } A σ=some (A',σ')):Gives P cx o a w A' σ':=by
 refine gives1 hi hkd hnt hd hrun hc (one_of (V:=fun x=>match x with | .nils | .empt=>some (.int .i64 0) | _=>none) (fun p=>by cases p<;>rfl) rfl (fun _ _ _=>rfl)) fun x p r hx hv hp=>?_
 have hx':c.args=#[x]:=by apply Array.toList_inj.1;simpa using hx
 obtain⟨consts,hr⟩:=Ax3 (P:=P) (w:=w) (a:=a) ho hb;rw[hx'] at hr;obtain⟨el,ht⟩:=ht
 have htt:∃t,c.argTypes=#[t]∧P.underlying t=some (.slice el):=by
  cases hl:c.argTypes.toList with
  |nil=>rw[hl] at ht;simp at ht
  |cons t r=>cases r with
   |nil=>
    rw[hl] at ht;simp at ht;exact⟨t,by apply Array.toList_inj.1;simpa using hl,ht⟩
   |cons _ _=>rw[hl] at ht;simp at ht
 obtain⟨t,htt,hu⟩:=htt;rw[htt] at hr;cases p with
 |nils=>
  have e:=(hp rfl).AxB;cases hv;refine⟨rfl,.int .i64 0,?_,.one (.inl (.int _ _)),fun _=>trivial⟩
  rw[hr];simp[builtin,Builtin.cap_,e,underlying,hu,goInt]
 |empt=>
  obtain⟨ad,e⟩:=(hp rfl).AjI;cases hv;refine⟨rfl,.int .i64 0,?_,.one (.inl (.int _ _)),fun _=>trivial⟩
  rw[hr];simp[builtin,Builtin.cap_,e,underlying,hu,goInt]
 |_=>simp at hv
theorem sim_min(hi:Inv cx G a w A σ)(hkd:∀t,cx.kd t=fi.kind t)(hnt:cx.nt=fi.nt){o:Oper}{c:Call}(ho:o.op=.call c)(hb:c.callee=.builtin .min)
  {as:List AArg} (hc:Aq2 fi c.args.toList=some as) (hd:Aq7 fi o.dst=true) (hrun:runA pur call { dst:=o.dst,k:=.p .min,args:=as } A σ=some (A',σ')):Gives P cx o a w A' σ':=by
 refine gives2 hi hkd hnt hd hrun hc (AJK (V:=minV) (fun _ _=>rfl) rfl (fun _=>rfl) (fun _ _ _ _=>rfl)) fun x y p q r hx hv hp hq=>?_
 have hx':c.args=#[x,y]:=by apply Array.toList_inj.1;simpa using hx
 obtain⟨consts,hr⟩:=Ax3 (P:=P) (w:=w) (a:=a) ho hb;rw[hx'] at hr;cases p with
 |int k n=>cases q with
  |int k' m=>
   simp only[minV] at hv;cases hv;have e1:=(hp rfl).AqF;have e2:=(hq rfl).AqF;exact⟨rfl,.int k (if m<n then m else n),by rw[hr];simp[builtin,Builtin.min_,Builtin.min2,e1,e2],.one (.inl (.int _ _)),fun _=>trivial⟩
  |_=>simp[minV] at hv
 |_=>simp[minV] at hv
theorem sim_max(hi:Inv cx G a w A σ)(hkd:∀t,cx.kd t=fi.kind t)(hnt:cx.nt=fi.nt){o:Oper}{c:Call}(ho:o.op=.call c)(hb:c.callee=.builtin .max)
  {as:List AArg} (hc:Aq2 fi c.args.toList=some as) (hd:Aq7 fi o.dst=true) (hrun:runA pur call { dst:=o.dst,k:=.p .max,args:=as } A σ=some (A',σ')):Gives P cx o a w A' σ':=by
 refine gives2 hi hkd hnt hd hrun hc (AJK (V:=maxV) (fun _ _=>rfl) rfl (fun _=>rfl) (fun _ _ _ _=>rfl)) fun x y p q r hx hv hp hq=>?_
 have hx':c.args=#[x,y]:=by apply Array.toList_inj.1;simpa using hx
 obtain⟨consts,hr⟩:=Ax3 (P:=P) (w:=w) (a:=a) ho hb;rw[hx'] at hr;cases p with
 |int k n=>cases q with
  |int k' m=>
   simp only[maxV] at hv;cases hv;have e1:=(hp rfl).AqF;have e2:=(hq rfl).AqF;exact⟨rfl,.int k (if n<m then m else n),by rw[hr];simp[builtin,Builtin.max_,Builtin.max2,e1,e2],.one (.inl (.int _ _)),fun _=>trivial⟩
  |_=>simp[maxV] at hv
 |_=>simp[maxV] at hv
theorem sim_sidx(hi:Inv cx G a w A σ)(hkd:∀t,cx.kd t=fi.kind t)(hnt:cx.nt=fi.nt){o:Oper}{t:TypeId}{x y:Operand}(ho:o.op=.index t x y)(ht:P.underlying t=some .string)
  {as:List AArg} (hc:Aq2 fi [x,y]=some as) (hd:Aq7 fi o.dst=true) (hrun:runA pur call { dst:=o.dst,k:=.p .sidx,args:=as } A σ=some (A',σ')):Gives P cx o a w A' σ':=by
 refine gives2 hi hkd hnt hd hrun hc (AJK (V:=sidxV) (fun _ _=>rfl) rfl (fun _=>rfl) (fun _ _ _ _=>rfl)) fun x' y' p q r hx hv hp hq=>?_
 cases hx;cases p with
 |str l=>cases q with
  |int k i=>
   obtain⟨s,e1,rfl⟩:=(hp rfl).Ax2;have e2:=(hq rfl).AqF;simp only[sidxV] at hv
   split at hv
   ·rename_i h0;obtain⟨b,hb,rfl⟩:=Option.map_eq_some_iff.1 hv;refine⟨rfl,.int .u8 b.toNat,?_,.one (.inl (.int _ _)),fun _=>trivial⟩
    have hlt:=(List.getElem?_eq_some_iff.1 hb).1
    have hsz:=Lib.size_eq s;have hlt':i.toNat<s.size:=by omega
    have hget:s[i.toNat]?=some b:=by
     rw[getElem?_pos s i.toNat hlt']
     have:=(List.getElem?_eq_some_iff.1 hb).2
     rw[←this];rfl
    simp[execOp,ho,Instr.index,e1,e2,asIntOf,underlying,ht,h0,hget]
   ·cases hv
  |_=>simp[sidxV] at hv
 |_=>simp[sidxV] at hv
end
end Go.Abs

namespace Go.Abs
open Go.RowKit
section
variable{P:Program}{pur:FuncId→Bool}{call:Caller}{fi:FI}{cx:Cx}{G:Gh}{a:Act}{w:World}{A A':Frm}{σ σ':Sto}
theorem RefOk.noflat{bl:Bl}{v:Value}{p:PV}(h:RefOk bl v p):p.flat=false:=by cases h<;>rfl
theorem RefOk.noflat0'{bl:Bl}{v:Value}{p:PV}(h:RefOk bl v p):p.flat0=false:=by cases h<;>rfl
theorem Ax5(b off n:Nat):Addr.add ⟨b,off,none⟩ n=⟨b,off+n,none⟩:=by
 unfold Addr.add;split
 ·rename_i h;simp[h]
 ·rfl
theorem RepT.flat{I:Imm}{bl:Bl}{v:Value}{p:PV}(h:RepT I bl w v p)(hf:p.flat=true):Rep I w v p:=by
 cases h with
 |one h=>
  rcases h with h | h
  ·exact h
  ·rw[h.noflat] at hf;cases hf
 |@func f fs cs first cap h1 h2 hf' hc=>
  simp only[PV.flat,Bool.and_eq_true,List.all_eq_true] at hf;refine .func h1 h2 (fun i p hp=>?_) (fun i p hp=>?_)
  ·rcases hf' i p hp with h | h
   ·exact h
   ·have:=hf.1 _ (List.mem_of_getElem? hp);rw[h.noflat0'] at this;cases this
  ·rcases hc i p hp with h | h
   ·exact h
   ·have:=hf.2 _ (List.mem_of_getElem? hp);rw[h.noflat0'] at this;cases this
 |tuple h hr=>
  simp only[PV.flat,List.all_eq_true] at hf;refine .tuple h fun i p hp=>?_
  rcases hr i p hp with h | h
  ·exact h
  ·have:=hf _ (List.mem_of_getElem? hp);rw[h.noflat0'] at this;cases this
 |aggr _ _=>cases hf
theorem RepT.rep1{I:Imm}{bl:Bl}{v:Value}{p:PV}(h:RepT I bl w v p)(hf:(p.flat||p.isRef)=true):Rep1 I bl w v p:=by
 rcases Bool.or_eq_true_iff.1 hf with hf | hf
 ·exact .inl (h.flat hf)
 ·cases h with
  |one h=>exact h
  |func _ _ _ _=>cases hf
  |tuple _ _=>cases hf
  |aggr _ _=>cases hf
theorem AZS{p:PV}(h:(p.flat||p.isRef)=true):p.free=true:=by
 cases p<;>first | rfl | simp[PV.flat,PV.isRef] at h
theorem AjW{x:Value}{k:IntKind}{i:Int}{y:Nat}{c:BoundsCode}(hx:x=.int k i)(h0:0≤i)(h1:i≤y):(Instr.sliceBound x y c).run P w=.ok i.toNat w:=by
 subst hx;simp[Instr.sliceBound,asIntOf,h0,h1]
theorem AjV{isSlice:Bool}{n cap:Nat}(hcap:n≤cap){lo hi:Option Operand}{bs:List PV}{l h:Nat}(hb:cutB lo.isSome hi.isSome n bs=some (l,h))
  (hrep:∀(i:Nat) (x:Operand) (p:PV),(lo.toList++hi.toList)[i]?=some x→bs[i]?=some p→p.free=true→RepT G.I G.bl w (a.eval x) p) :
  (Instr.sliceBounds isSlice n cap (lo.map a.eval) (hi.map a.eval) none).run P w=.ok (l,h,cap) w∧l≤h∧h≤n:=by
 unfold cutB at hb
 split at hb
 ·rename_i k1 l' k2 h' e1 e2;obtain⟨x,rfl⟩:=Option.isSome_iff_exists.1 e1;obtain⟨y,rfl⟩:=Option.isSome_iff_exists.1 e2
  split at hb
  ·rename_i hc;cases hb;obtain⟨c1,c2,c3⟩:=hc;have r1:=(hrep 0 x (.int k1 l') rfl rfl rfl).AqF;have r2:=(hrep 1 y (.int k2 h') rfl rfl rfl).AqF;refine⟨?_,by omega,by omega⟩
   simp only[Instr.sliceBounds,Option.map_some,Sem.run_bind,Sem.run_pure,Result.andThen_ok];rw[AjW r2 (by omega) (by omega),Result.andThen_ok,AjW r1 c1 (by omega)]
   rfl
  ·cases hb
 ·rename_i k1 l' e1 e2;obtain⟨x,rfl⟩:=Option.isSome_iff_exists.1 e1;cases hi with
  |some y=>simp at e2
  |none=>
   split at hb
   ·rename_i hc;cases hb;obtain⟨c1,c2⟩:=hc;have r1:=(hrep 0 x (.int k1 l') rfl rfl rfl).AqF;refine⟨?_,by omega,by omega⟩
    simp only[Instr.sliceBounds,Option.map_some,Option.map_none,Sem.run_bind,Sem.run_pure,Result.andThen_ok];rw[AjW r1 c1 (by omega)]
    rfl
   ·cases hb
 ·rename_i k1 h' e1 e2;obtain⟨y,rfl⟩:=Option.isSome_iff_exists.1 e2;cases lo with
  |some y=>simp at e1
  |none=>
   split at hb
   ·rename_i hc;cases hb;obtain⟨c1,c2⟩:=hc;have r1:=(hrep 0 y (.int k1 h') rfl rfl rfl).AqF;refine⟨?_,by omega,by omega⟩
    simp only[Instr.sliceBounds,Option.map_some,Option.map_none,Sem.run_bind,Sem.run_pure,Result.andThen_ok];rw[AjW r1 c1 (by omega)]
    rfl
   ·cases hb
 ·rename_i e1 e2;cases hb;cases lo with
  |some y=>simp at e1
  |none=>cases hi with
   |some y=>simp at e2
   |none=>exact⟨rfl,by omega,by omega⟩
 ·cases hb
theorem givesN(hi:Inv cx G a w A σ)(hkd:∀t,cx.kd t=fi.kind t)(hnt:cx.nt=fi.nt){o:Oper}{k:PK}{xs:List Operand}{as:List AArg}(hd:Aq7 fi o.dst=true)
  (hrun:runA pur call { dst:=o.dst,k:=.p k,args:=as } A σ=some (A',σ')) (hc:Aq2 fi xs=some as)
  (hsem:∀vs rs,semP k vs=some rs→xs.length=vs.length→(∀(i:Nat) (x:Operand) (p:PV),xs[i]?=some x→vs[i]?=some p→p.free=true→RepT G.I G.bl w (a.eval x) p)→
   ∃r v,rs=[some r]∧r.free=true∧(execOp a.eval o).run P w=.ok (.value v) w∧RepT G.I G.bl w v r∧∀tag,OwnOk G w tag v r):Gives P cx o a w A' σ':=by
 refine AzR hi hkd hnt hd hrun fun vs rs he hs=>?_
 have key:∀{xs:List Operand} {as:List AArg},Aq2 fi xs=some as→∀{vs:List PV},Aq8 A as=some vs→
   xs.length=vs.length∧∀(i:Nat) (x:Operand) (p:PV),xs[i]?=some x→vs[i]?=some p→p.free=true→RepT G.I G.bl w (a.eval x) p:=by
  intro xs
  induction xs with
  |nil=>intro as h vs h';cases h;cases h';exact⟨rfl,fun i x p h=>by simp at h⟩
  |cons x xs ih=>
   intro as h vs h';obtain⟨y,zs,rfl,h1,h2⟩:=Aq3 h;obtain⟨p,qs,rfl,h3,h4⟩:=Aq1 h';obtain⟨hl,hr⟩:=ih h2 h4;refine⟨by simp[hl],fun i x' p' hx hp hf=>?_⟩
   cases i with
   |zero=>simp at hx hp;subst hx hp;exact Aq5 hi hkd h1 h3 hf
   |succ i=>exact hr i x' p' (by simpa using hx) (by simpa using hp) hf
 obtain⟨hl,hr⟩:=key hc he;obtain⟨r,v,h1,h2⟩:=hsem vs rs hs hl hr;exact⟨r,v,h1,h2⟩
theorem sim_ssl(hi:Inv cx G a w A σ)(hkd:∀t,cx.kd t=fi.kind t)(hnt:cx.nt=fi.nt){o:Oper}{t:TypeId}{x:Operand}{lo hi':Option Operand}(ho:o.op=.slice t x lo hi' none)
  (ht:P.underlying t=some .string)
  {as:List AArg} (hc:Aq2 fi (x::(lo.toList++hi'.toList))=some as) (hd:Aq7 fi o.dst=true) (hrun:runA pur call { dst:=o.dst,k:=.p (.ssl lo.isSome hi'.isSome),args:=as } A σ=some (A',σ')):Gives P cx o a w A' σ':=by
 refine givesN hi hkd hnt hd hrun hc fun vs rs hs hl hrep=>?_
 match vs,hl with
 |p::bs,_=>
  cases p with
  |str l=>
   obtain⟨s,e,rfl⟩:=(hrep 0 x _ rfl rfl rfl).Ax2;simp only[semP] at hs;obtain⟨⟨l,h⟩,hb,e'⟩:=Option.map_eq_some_iff.1 hs;cases e';rw[←Lib.size_eq] at hb;obtain⟨hr,h1,h2⟩:=AjV (P:=P) (G:=G) (a:=a) (w:=w) (isSlice:=false) (cap:=s.size) (Nat.le_refl _) hb (fun i x p hx hp hf=>hrep (i+1) x p (by simpa using hx) (by simpa using hp) hf)
   refine⟨_,.string (s.extract l h),rfl,rfl,?_,?_,fun _=>trivial⟩
   ·simp[execOp,ho,Instr.sliceAt,Instr.slice,underlying,ht,e,hr]
   ·rw[←Lib.extract_data];exact .one (.inl (.str _))
  |_=>simp[semP] at hs
 |[],hl=>simp at hl
theorem sim_vsl(hi:Inv cx G a w A σ)(hkd:∀t,cx.kd t=fi.kind t)(hnt:cx.nt=fi.nt){o:Oper}{t e:TypeId}{x:Operand}{lo hi':Option Operand}(ho:o.op=.slice t x lo hi' none)
  (ht:P.underlying t=some (.slice e)) {size:Nat} {ag:Bool} (hsz:AqG P e=some (size,ag))
  {as:List AArg} (hc:Aq2 fi (x::(lo.toList++hi'.toList))=some as) (hd:Aq7 fi o.dst=true) (hrun:runA pur call { dst:=o.dst,k:=.p (.vsl size lo.isSome hi'.isSome),args:=as } A σ=some (A',σ')):Gives P cx o a w A' σ':=by
 refine givesN hi hkd hnt hd hrun hc fun vs rs hs hl hrep=>?_
 match vs,hl with
 |p::bs,_=>
  cases p with
  |slice own sz es=>
   obtain⟨ad,len,cap,cv,ev,e1,e2,e3,e4,e5,e6,e7⟩:=(hrep 0 x _ rfl rfl rfl).Ax6;simp only[semP] at hs
   split at hs
   ·rename_i hsz';subst hsz';obtain⟨⟨l,h⟩,hb,e'⟩:=Option.map_eq_some_iff.1 hs;cases e';rw[←e1] at hb;obtain⟨hr,h1,h2⟩:=AjV (P:=P) (G:=G) (a:=a) (w:=w) (isSlice:=true) (cap:=cap) e2 hb (fun i x p hx hp hf=>hrep (i+1) x p (by simpa using hx) (by simpa using hp) hf)
    have hsize:(sizeOf e).run P w=.ok sz w:=by
     unfold AqG at hsz
     split at hsz
     ·rename_i i d hi hd;cases hsz;simp[sizeOf,typeInfo,hi]
     ·cases hsz
    have hget:∀i el,((es.drop l).take (h - l))[i]?=some el→i<h - l∧es[l+i]?=some el:=by
     intro i el hel;rw[List.getElem?_take] at hel
     split at hel
     ·rename_i hlt;rw[List.getElem?_drop] at hel
      exact⟨hlt,hel⟩
     ·cases hel
    refine⟨_,.slice (if cap=l then some ad else(some ad).map (·.add (l * sz))) (h - l) (cap - l),rfl,rfl,?_,?_,fun _=>trivial⟩
    ·simp[execOp,ho,Instr.sliceAt,Instr.slice,underlying,ht,ev,hr,hsize]
    ·refine .one (.inl ?_)
     have hlen:h - l=((es.drop l).take (h - l)).length:=by
      rw[List.length_take,List.length_drop];omega
     by_cases hcl:cap=l
     ·rw[if_pos hcl];have h0:h - l=0:=by omega
      have hemp:(es.drop l).take (h - l)=[]:=by rw[h0];simp
      rw[hemp] at hlen ⊢;exact .slice (fun i j=>cv (l+i) j) hlen (by omega) (fun hne=>absurd rfl hne) (fun i e h=>by simp at h) (fun i e j p h=>by simp at h) (fun i e j p h=>by simp at h) (fun i e j p h=>by simp at h)
     ·rw[if_neg hcl];simp only[Option.map_some]
      have hadd:es≠[]→ad.add (l * sz)=⟨ad.block,ad.off+l * sz,none⟩:=by
       intro hne;have hsp:=e3 hne;unfold Addr.add;split
       ·rename_i h0;rw[h0];cases ad;dsimp only at hsp;rw[hsp];rfl
       ·rfl
      have hblk:(ad.add (l * sz)).block=ad.block∧(ad.add (l * sz)).off=ad.off+l * sz:=by
       unfold Addr.add;split
       ·rename_i h0;simp[h0]
       ·exact⟨rfl,rfl⟩
      refine .slice (fun i j=>cv (l+i) j) hlen (by omega) (fun hne=>?_) ?_ ?_ ?_ ?_
      ·have:es≠[]:=by intro h0;rw[h0] at hne;simp at hne
       rw[hadd this]
      ·intro i el hel;exact e4 _ _ (hget i el hel).2
      ·intro i el j q hel hq;rw[hblk.1,hblk.2];have:=e5 _ _ j q (hget i el hel).2 hq;rw[Nat.add_mul] at this;rw[show ad.off+l * sz+i * sz+j=ad.off+(l * sz+i * sz)+j from by omega];exact this
      ·intro i el j q hel hq;rw[hblk.1,hblk.2];have:=e6 _ _ j q (hget i el hel).2 hq;rw[Nat.add_mul] at this;rw[show ad.off+l * sz+i * sz+j=ad.off+(l * sz+i * sz)+j from by omega];exact this
      ·intro i el j q hel hq;exact e7 _ _ j q (hget i el hel).2 hq
   ·cases hs
  |arr id gen off len sz=>
   obtain⟨b,base,n,cap,b',o',e1,e2,e3,e4,ev⟩:=(hrep 0 x _ rfl rfl rfl).AjQ;simp only[semP] at hs
   split at hs
   ·rename_i hsz';subst hsz';obtain⟨⟨l,h⟩,hb,e'⟩:=Option.map_eq_some_iff.1 hs;cases e';obtain⟨hr,h1,h2⟩:=AjV (P:=P) (G:=G) (a:=a) (w:=w) (isSlice:=true) (cap:=cap) e2 hb (fun i x p hx hp hf=>hrep (i+1) x p (by simpa using hx) (by simpa using hp) hf)
    have hsize:(sizeOf e).run P w=.ok sz w:=by
     unfold AqG at hsz
     split at hsz
     ·rename_i i d hi hd;cases hsz;simp[sizeOf,typeInfo,hi]
     ·cases hsz
    by_cases hcl:cap=l
    ·subst hcl;refine⟨_,.slice (some ⟨b',o',none⟩) (h - cap) (cap - cap),rfl,rfl,?_,?_,fun _=>trivial⟩
     ·simp[execOp,ho,Instr.sliceAt,Instr.slice,underlying,ht,ev,hr,hsize]
     ·refine .one (.inr (.arr e1 (by omega) ?_ (by omega)))
      show base+(off+cap+(cap - cap)) * sz≤n;rw[show off+cap+(cap - cap)=off+cap by omega];exact e3
    ·refine⟨_,.slice (some ⟨b',o'+l * sz,none⟩) (h - l) (cap - l),rfl,rfl,?_,?_,fun _=>trivial⟩
     ·simp[execOp,ho,Instr.sliceAt,Instr.slice,underlying,ht,ev,hr,hsize,hcl,Ax5]
     ·refine .one (.inr (.arr e1 (by omega) ?_ (fun hc=>?_)))
      ·show base+(off+l+(cap - l)) * sz≤n;rw[show off+l+(cap - l)=off+cap by omega];exact e3
      ·obtain⟨rfl,rfl⟩:=e4 (by omega)
       refine⟨rfl,?_⟩
       show base+off * sz+l * sz=base+(off+l) * sz;rw[Nat.add_mul];omega
   ·cases hs
  |nils=>
   have ev:=(hrep 0 x _ rfl rfl rfl).AxB;simp only[semP] at hs;obtain⟨⟨l,h⟩,hb,e'⟩:=Option.map_eq_some_iff.1 hs;cases e';obtain⟨hr,h1,h2⟩:=AjV (P:=P) (G:=G) (a:=a) (w:=w) (isSlice:=true) (cap:=0) (Nat.le_refl _) hb (fun i x p hx hp hf=>hrep (i+1) x p (by simpa using hx) (by simpa using hp) hf)
   have hsize:(sizeOf e).run P w=.ok size w:=by
    unfold AqG at hsz
    split at hsz
    ·rename_i i d hi hd;cases hsz;simp[sizeOf,typeInfo,hi]
    ·cases hsz
   obtain⟨rfl,rfl⟩:l=0∧h=0:=by omega
   exact⟨_,.slice none 0 0,rfl,rfl,by simp[execOp,ho,Instr.sliceAt,Instr.slice,underlying,ht,ev,hr,hsize],.one (.inl .nils),fun _=>trivial⟩
  |empt=>
   obtain⟨ad,ev⟩:=(hrep 0 x _ rfl rfl rfl).AjI;simp only[semP] at hs;obtain⟨⟨l,h⟩,hb,e'⟩:=Option.map_eq_some_iff.1 hs;cases e';obtain⟨hr,h1,h2⟩:=AjV (P:=P) (G:=G) (a:=a) (w:=w) (isSlice:=true) (cap:=0) (Nat.le_refl _) hb (fun i x p hx hp hf=>hrep (i+1) x p (by simpa using hx) (by simpa using hp) hf)
   have hsize:(sizeOf e).run P w=.ok size w:=by
    unfold AqG at hsz
    split at hsz
    ·rename_i i d hi hd;cases hsz;simp[sizeOf,typeInfo,hi]
    ·cases hsz
   obtain⟨rfl,rfl⟩:l=0∧h=0:=by omega
   exact⟨_,.slice (some ad) 0 0,rfl,rfl,by simp[execOp,ho,Instr.sliceAt,Instr.slice,underlying,ht,ev,hr,hsize],.one (.inl .empt),fun _=>trivial⟩
  |_=>simp[semP] at hs
 |[],hl=>simp at hl
theorem sim_cut0(hi:Inv cx G a w A σ)(hkd:∀t,cx.kd t=fi.kind t)(hnt:cx.nt=fi.nt){o:Oper}{t e:TypeId}{x:Operand}{k1 k2:IntKind}(ho:o.op=.slice t x none (some (.const (.int k1 0))) (some (.const (.int k2 0))))
  (ht:P.underlying t=some (.slice e)) {size:Nat} {ag:Bool} (hsz:AqG P e=some (size,ag))
  {as:List AArg} (hc:Aq2 fi [x]=some as) (hd:Aq7 fi o.dst=true) (hrun:runA pur call { dst:=o.dst,k:=.p .cut0,args:=as } A σ=some (A',σ')):Gives P cx o a w A' σ':=by
 refine givesN hi hkd hnt hd hrun hc fun vs rs hs hl hrep=>?_
 have hsize:(sizeOf e).run P w=.ok size w:=by
  unfold AqG at hsz
  split at hsz
  ·rename_i i d hi hd;cases hsz;simp[sizeOf,typeInfo,hi]
  ·cases hsz
 have hbd:∀len cap,(Instr.sliceBounds true len cap none (some (.int k1 0)) (some (.int k2 0))).run P w=.ok (0,0,0) w:=by
  intro len cap;simp only[Instr.sliceBounds,Sem.run_bind,Sem.run_pure,Result.andThen_ok];rw[AjW rfl (by omega) (by omega),Result.andThen_ok,AjW rfl (by omega) (by omega)]
  rfl
 have hgen:∀(ad:Option Addr) (len cap:Nat),a.eval x=.slice ad len cap→(execOp a.eval o).run P w=.ok (.value (.slice ad 0 0)) w:=by
  intro ad len cap ev;have h1:a.eval (.const (.int k1 0))=.int k1 0:=rfl;have h2:a.eval (.const (.int k2 0))=.int k2 0:=rfl;simp[execOp,ho,Instr.sliceAt,Instr.slice,underlying,ht,ev,hbd,hsize,h1,h2]
 match vs,hl with
 |[p],_=>
  cases p with
  |nils=>
   have ev:=(hrep 0 x _ rfl rfl rfl).AxB;cases hs;exact⟨_,_,rfl,rfl,hgen _ _ _ ev,.one (.inl .nils),fun _=>trivial⟩
  |slice own sz es=>
   obtain⟨ad,len,cap,cv,ev,_⟩:=(hrep 0 x _ rfl rfl rfl).Ax6;cases hs;exact⟨_,_,rfl,rfl,hgen _ _ _ ev,.one (.inl .empt),fun _=>trivial⟩
  |arr id gen off len sz=>
   obtain⟨b,base,n,cap,b',o',_,_,_,_,ev⟩:=(hrep 0 x _ rfl rfl rfl).AjQ;cases hs;exact⟨_,_,rfl,rfl,hgen _ _ _ ev,.one (.inl .empt),fun _=>trivial⟩
  |empt=>
   obtain⟨ad,ev⟩:=(hrep 0 x _ rfl rfl rfl).AjI;cases hs;exact⟨_,_,rfl,rfl,hgen _ _ _ ev,.one (.inl .empt),fun _=>trivial⟩
  |_=>simp[semP] at hs
 |[],hl=>simp at hl
 |_::_::_,hl=>simp at hl
end
end Go.Abs

namespace Go.Abs
open Go.RowKit
section
variable{P:Program}{pur:FuncId→Bool}{call:Caller}{fi:FI}{cx:Cx}{G:Gh}{a:Act}{w:World}{A A':Frm}{σ σ':Sto}
theorem Rep1.Aq0{I:Imm}{bl:Bl}{v:Value}{p:PV}(h:Rep1 I bl w v p):Rep1 I bl w v p.Aq0:=by
 rcases h with h | h
 ·exact .inl h.Aq0
 ·exact .inr (by rw[h.Aq0];exact h)
theorem AwT(xs:Array Operand)(i:Nat)(x:Operand)(h:xs.toList[i]?=some x)(f:Operand→Value):(xs.map f).getD i undef=f x:=by
 rw[Array.getD_eq_getD_getElem?,Array.getElem?_map]
 rw[Array.getElem?_toList] at h
 rw[h];rfl
theorem sim_mkf(hi:Inv cx G a w A σ)(hkd:∀t,cx.kd t=fi.kind t)(hnt:cx.nt=fi.nt){o:Oper}{f:FuncId}{first cap:Array Operand}(ho:o.op=.makeFunc (.func f) first cap)
  {as:List AArg} (hc:Aq2 fi (first.toList++cap.toList)=some as) (hd:Aq7 fi o.dst=true) (hrun:runA pur call { dst:=o.dst,k:=.p (.mkf f first.size),args:=as } A σ=some (A',σ')):Gives P cx o a w A' σ':=by
 refine givesN hi hkd hnt hd hrun hc fun vs rs hs hl hrep=>?_
 simp only[semP] at hs
 split at hs
 ·rename_i hall;cases hs;rw[List.all_eq_true] at hall;have hlen:first.size+cap.size=vs.length:=by simpa using hl
  have key:∀(i:Nat) (x:Operand) (p:PV),(first.toList++cap.toList)[i]?=some x→vs[i]?=some p→Rep1 G.I G.bl w (a.eval x) p.Aq0:=by
   intro i x p hx hp;have hm:=hall p (List.mem_of_getElem? hp);exact((hrep i x p hx hp (AZS hm)).rep1 hm).Aq0
  refine⟨_,.func (.func f) (first.map a.eval) (cap.map a.eval),rfl,rfl,by simp[execOp,ho,Instr.makeFunc],?_,fun _=>trivial⟩
  refine .func (by simp;omega) (by simp;omega) (fun i p hp=>?_) (fun i p hp=>?_)
  ·rw[List.getElem?_take] at hp
   split at hp
   ·rename_i hlt;rw[List.getElem?_map] at hp
    obtain⟨q,hq,rfl⟩:=Option.map_eq_some_iff.1 hp;have hx:first.toList[i]?=some first[i]:=by rw[Array.getElem?_toList];exact Array.getElem?_eq_getElem hlt
    rw[AwT _ _ _ hx];exact key i _ q (by rw[List.getElem?_append_left (by simpa using hlt)];exact hx) hq
   ·cases hp
  ·rw[List.getElem?_drop,List.getElem?_map] at hp
   obtain⟨q,hq,rfl⟩:=Option.map_eq_some_iff.1 hp;have hlt:i<cap.size:=by have:=(List.getElem?_eq_some_iff.1 hq).1;omega
   have hx:cap.toList[i]?=some cap[i]:=by rw[Array.getElem?_toList];exact Array.getElem?_eq_getElem hlt
   rw[AwT _ _ _ hx];exact key (first.size+i) _ q (by rw[List.getElem?_append_right (by simp)];simp at hx ⊢) hq
 ·cases hs
theorem run_sizeOf{e:TypeId}{n:Nat}{ag:Bool}(h:AqG P e=some (n,ag)):(sizeOf e).run P w=.ok n w:=by
 unfold AqG at h
 split at h
 ·rename_i i d hi hd;cases h;simp[sizeOf,typeInfo,hi]
 ·cases h
theorem Aj7{e:TypeId}{n:Nat}{ag:Bool}(h:AqG P e=some (n,ag)):(isAgg e).run P w=.ok ag w:=by
 unfold AqG at h
 split at h
 ·rename_i i d hi hd;cases h;cases d<;>simp[isAgg,underlying,hd,isAggD]
 ·cases h
theorem sim_idx(hi:Inv cx G a w A σ)(hkd:∀t,cx.kd t=fi.kind t)(hnt:cx.nt=fi.nt){o:Oper}{t e:TypeId}{x y:Operand}(ho:o.op=.indexAddr t x y)(ht:P.underlying t=some (.slice e))
  {size:Nat} {ag:Bool} (hsz:AqG P e=some (size,ag))
  {as:List AArg} (hc:Aq2 fi [x,y]=some as) (hd:Aq7 fi o.dst=true) (hrun:runA pur call { dst:=o.dst,k:=.p (.idx size),args:=as } A σ=some (A',σ')):Gives P cx o a w A' σ':=by
 refine gives2 hi hkd hnt hd hrun hc (AJK (V:=idxV size) (fun _ _=>rfl) rfl (fun _=>rfl) (fun _ _ _ _=>rfl)) fun x' y' p q r hx hv hp hq=>?_
 cases hx;cases p with
 |slice own sz es=>cases q with
  |int k i=>
   obtain⟨ad,len,cap,cv,ev,e1,e2,e3,e4,e5,e6,e7⟩:=(hp rfl).Ax6;have e':=(hq rfl).AqF;simp only[idxV] at hv
   split at hv
   ·rename_i hc';obtain⟨rfl,h0⟩:=hc';obtain⟨el,hel,rfl⟩:=Option.map_eq_some_iff.1 hv;have hlt:=(List.getElem?_eq_some_iff.1 hel).1
    have hne:es≠[]:=by intro h;subst h;simp at hlt
    have hsp:=e3 hne;have had:ad=⟨ad.block,ad.off,none⟩:=by cases ad;dsimp only at hsp;rw[hsp]
    refine⟨rfl,.pointer (some ⟨ad.block,ad.off+i.toNat * sz,none⟩),?_,?_,fun _=>trivial⟩
    ·have hb:0≤i∧i<(len:Int):=⟨h0,by omega⟩
     have hs':=run_sizeOf (P:=P) (w:=w) hsz;rw[had] at ev;have:Addr.add ⟨ad.block,ad.off,none⟩ (i.toNat * sz)=⟨ad.block,ad.off+i.toNat * sz,none⟩:=Ax5 ..;simp[execOp,ho,Instr.indexAt,ev,e',asIntOf,underlying,ht,hb,hs',this]
    ·exact .one (.inl (.vptr (fun j=>cv i.toNat j) (fun j p hp=>e5 _ _ _ _ hel hp) (fun j p hp=>e6 _ _ _ _ hel hp) (fun j p hp=>e7 _ _ _ _ hel hp)))
   ·cases hv
  |_=>simp[idxV] at hv
 |arr id gen off len sz=>cases q with
  |int k i=>
   obtain⟨b,base,n,cap,b',o',e1,e2,e3,e4,ev⟩:=(hp rfl).AjQ;have e':=(hq rfl).AqF;simp only[idxV] at hv
   split at hv
   ·rename_i hc';obtain⟨rfl,h0,h1⟩:=hc';cases hv;obtain⟨rfl,rfl⟩:=e4 (by omega)
    have hb:0≤i∧i<(len:Int):=⟨h0,h1⟩;have hs':=run_sizeOf (P:=P) (w:=w) hsz;refine⟨rfl,.pointer (some ⟨b',base+(off+i.toNat) * sz+0,none⟩),?_,.one (.inr (.aptr e1)),fun _=>trivial⟩
    have:base+(off+i.toNat) * sz+0=base+off * sz+i.toNat * sz:=by rw[Nat.add_mul];omega
    rw[this];simp[execOp,ho,Instr.indexAt,ev,e',asIntOf,underlying,ht,hb,hs',Ax5]
   ·cases hv
  |_=>simp[idxV] at hv
 |_=>simp[idxV] at hv
theorem Aw4{v x:PV}{off n:Nat}{ag:Bool}(h:sub v off n ag=some x):∀(j:Nat) (p:PV),x.cells[j]?=some p→v.cells[off+j]?=some p:=by
 intro j p hp;unfold sub at h;cases ag with
 |true=>
  dsimp only at h;cases v with
  |agg cs=>
   dsimp only at h
   split at h
   ·cases h;simp only[PV.cells] at hp ⊢;rw[List.getElem?_take] at hp
    split at hp
    ·rw[List.getElem?_drop] at hp;exact hp
    ·cases hp
   ·cases h
  |_=>cases h
 |false=>
  dsimp only at h
  split at h
  ·rename_i y hy
   split at h
   ·cases h
   ·rename_i hag;cases h
    have:x.cells=[x]:=by
     cases x with
     |agg cs=>exact absurd rfl hag
     |aggr cs=>exact absurd rfl hag
     |_=>rfl
    rw[this] at hp;cases j with
    |zero=>simp at hp;subst hp;exact hy
    |succ j=>simp at hp
  ·cases h
theorem Aj8{s:TypeId}{fs:Array Field}{f:Nat}{fl:Field}(hs:P.underlying s=some (.struct fs))(hf:fs[f]?=some fl){n:Nat}{ag:Bool}(hn:AqG P fl.type=some (n,ag))(hn0:n≠0)(b off:Nat):
  (Instr.fieldAt s (.pointer (some ⟨b,off,none⟩)) f).run P w=.ok (.pointer (some ⟨b,off+fl.offset,none⟩)) w:=by
 simp[Instr.fieldAt,underlying,hs,hf,Instr.sureAddr,fieldPlace,run_sizeOf hn,hn0,Ax5]
theorem sim_fa(hi:Inv cx G a w A σ)(hkd:∀t,cx.kd t=fi.kind t)(hnt:cx.nt=fi.nt){o:Oper}{t:TypeId}{x:Operand}{f:Nat}(ho:o.op=.fieldAddr t x f)
  {fs:Array Field} {fl:Field} (hs':P.underlying t=some (.struct fs)) (hf:fs[f]?=some fl) {n:Nat} {ag:Bool} (hn:AqG P fl.type=some (n,ag)) (hn0:n≠0)
  (hnl:∀p,∀d off,p=PV.lref d off→∀y,AxQ fi x=some y→Aq8 A [y]≠some [p])
  {as:List AArg} (hc:Aq2 fi [x]=some as) (hd:Aq7 fi o.dst=true) (hrun:runA pur call { dst:=o.dst,k:=.p (.fa fl.offset n ag),args:=as } A σ=some (A',σ')):Gives P cx o a w A' σ':=by
 refine AzR hi hkd hnt hd hrun fun vs rs he hs=>?_
 obtain⟨p,r,rfl,hv,rfl⟩:=one_of (V:=faV fl.offset n ag) (k:=.fa fl.offset n ag) (fun _=>rfl) rfl (fun _ _ _=>rfl) vs rs hs
 obtain⟨x',y,e,rfl,hy,hp⟩:=args1 hc he;cases e;cases p with
 |vptr v=>
  obtain⟨b,off,cv,ev,h1,h2,h3⟩:=(Aq5 hi hkd hy hp rfl).Ak4;simp only[faV] at hv;obtain⟨u,hu,rfl⟩:=Option.map_eq_some_iff.1 hv;have hsc:=Aw4 hu;refine⟨_,.pointer (some ⟨b,off+fl.offset,none⟩),rfl,rfl,by simp[execOp,ho,ev,Aj8 hs' hf hn hn0],?_,fun _=>trivial⟩
  refine .one (.inl (.vptr (fun j=>cv (fl.offset+j)) (fun j q hq=>?_) (fun j q hq=>?_) (fun j q hq=>?_)))
  ·have:=h1 _ _ (hsc j q hq);rw[←Nat.add_assoc] at this;exact this
  ·have:=h2 _ _ (hsc j q hq);rw[←Nat.add_assoc] at this;exact this
  ·exact h3 _ _ (hsc j q hq)
 |ref id off=>
  obtain⟨b,h1,ev⟩:=(Aq5 hi hkd hy hp rfl).AjK;simp only[faV] at hv;cases hv;exact⟨_,.pointer (some ⟨b,off+fl.offset,none⟩),rfl,rfl,by simp[execOp,ho,ev,Aj8 hs' hf hn hn0],.one (.inr (.ref h1)),fun _=>trivial⟩
 |aptr id gen size i off=>
  obtain⟨b,base,n',h1,ev⟩:=(Aq5 hi hkd hy hp rfl).AkI;simp only[faV] at hv;cases hv;exact⟨_,.pointer (some ⟨b,base+i * size+(off+fl.offset),none⟩),rfl,rfl,by simp[execOp,ho,ev,Aj8 hs' hf hn hn0,Nat.add_assoc],.one (.inr (.aptr h1)),fun _=>trivial⟩
 |lref d off=>exact absurd hp (hnl _ d off rfl y hy)
 |_=>simp[faV] at hv
theorem AXZ{t:TypeId}{n:Nat}{ag:Bool}(hn:AqG P t=some (n,ag)){b off:Nat}{v:PV}{cv:Nat→Value}(hf:fits n ag v=true)
  (hc:∀(j:Nat) (p:PV),v.cells[j]?=some p→w.cell? ⟨b,off+j,none⟩=some (cv j)) :
  ∃c,(Instr.loadAt t (.pointer (some ⟨b,off,none⟩))).run P w=.ok c w∧(∀I:Imm,(∀(j:Nat) (p:PV),v.cells[j]?=some p→Rep I w (cv j) p)→Rep I w c v)∧(ag=false→c=cv 0∧v.cells=[v]):=by
 cases ag with
 |true=>
  cases v with
  |agg cs=>
   simp[fits] at hf;refine⟨.agg ((List.range n).map cv).toArray,?_,fun I hr=>?_,fun h=>by cases h⟩
   ·have h:=run_loadCells (P:=P) (w:=w) ⟨b,off,none⟩ n cv (fun j hj=>by
     rw[Ax5];have:cs[j]?=some cs[j]:=List.getElem?_eq_getElem (by omega)
     exact hc j _ this)
    simp[Instr.loadAt,Instr.sureAddr,loadVar,Aj7 hn,run_sizeOf hn,h]
   ·refine .agg (by simp[hf]) fun i p hp=>?_
    have hlt:=(List.getElem?_eq_some_iff.1 hp).1
    have:(((List.range n).map cv).toArray).getD i undef=cv i:=by
     simp[Array.getD,hf▸hlt]
    rw[this];exact hr i p hp
  |_=>simp[fits] at hf
 |false=>
  have hcell:v.cells=[v]:=by
   cases v with
   |agg cs=>simp[fits] at hf
   |aggr cs=>simp[fits] at hf
   |_=>rfl
  have h0:=hc 0 v (by rw[hcell];rfl)
  refine⟨cv 0,?_,fun I hr=>hr 0 v (by rw[hcell];rfl),fun _=>⟨rfl,hcell⟩⟩
  rw[Nat.add_zero] at h0;simp[Instr.loadAt,Instr.sureAddr,loadVar,Aj7 hn,run_load,h0]
theorem sim_ldp(hi:Inv cx G a w A σ)(hkd:∀t,cx.kd t=fi.kind t)(hnt:cx.nt=fi.nt){o:Oper}{t:TypeId}{x:Operand}(ho:o.op=.load t x){n:Nat}{ag:Bool}(hn:AqG P t=some (n,ag))
  {as:List AArg} (hc:Aq2 fi [x]=some as) (hd:Aq7 fi o.dst=true) (hrun:runA pur call { dst:=o.dst,k:=.p (.ldp n ag),args:=as } A σ=some (A',σ')):Gives P cx o a w A' σ':=by
 refine gives1 hi hkd hnt hd hrun hc (one_of (V:=fun p=>(ldV n ag p).map PV.Aq0) (fun p=>by simp[semP];rfl) rfl (fun _ _ _=>rfl)) fun x' p r hx hv hp=>?_
 cases hx;obtain⟨q,hq,rfl⟩:=Option.map_eq_some_iff.1 hv;cases p with
 |vptr v=>
  obtain⟨b,off,cv,ev,h1,h2,h3⟩:=(hp rfl).Ak4;simp only[ldV] at hq
  split at hq
  ·rename_i hf;cases hq;obtain⟨hfit,hfree⟩:=hf;obtain⟨c,hr,hrep,_⟩:=AXZ (P:=P) (w:=w) hn hfit h2;exact⟨by rw[AqH];exact hfree,c,by simp[execOp,ho,ev,hr],.one (.inl (hrep _ h3).Aq0),fun _=>AqA _⟩
  ·cases hq
 |_=>simp[ldV] at hq
end
end Go.Abs

namespace Go.Abs
open Go.RowKit
section
variable{P:Program}{pur:FuncId→Bool}{call:Caller}{fi:FI}{cx:Cx}{G:Gh}{a:Act}{w:World}{A A':Frm}{σ σ':Sto}
theorem AxS{I:Imm}{v:Value}{p:PV}(h:Rep I w v p):v.cells.size=p.cells.length∧∀(j:Nat) (q:PV),p.cells[j]?=some q→Rep I w (v.cells.getD j undef) q:=by
 cases h with
 |agg h hr=>exact⟨h,hr⟩
 |_=>
  refine⟨rfl,fun j q hq=>?_⟩
  cases j with
  |zero=>
   simp only[PV.cells,List.getElem?_cons_zero,Option.some.injEq] at hq
   subst hq
   constructor<;>assumption
  |succ j=>simp[PV.cells] at hq
theorem foldl_set(l:List Value):∀(s off:Nat) (cells:Array Value),off+s+l.length≤cells.size→
  (l.zipIdx s).foldl (fun(cs:Array Value) (x:Value×Nat)=>cs.setIfInBounds (off+x.2) x.1) cells = 
   (cells.toList.take (off+s)++l++cells.toList.drop (off+s+l.length)).toArray:=by
 induction l with
 |nil=>intro s off cells h;simp
 |cons v l ih=>
  intro s off cells h;simp only[List.zipIdx_cons,List.foldl_cons];simp only[List.length_cons] at h;rw[ih (s+1) off _ (by simp;omega)]
  apply congrArg;have hlt:off+s<cells.toList.length:=by simp;omega
  have e1:(cells.setIfInBounds (off+s) v).toList=cells.toList.set (off+s) v:=by simp
  rw[e1];rw[show off+(s+1)=(off+s)+1 from by omega,List.take_set,List.drop_set,if_pos (by omega)]
  have e2:(cells.toList.take (off+s+1)).set (off+s) v=cells.toList.take (off+s)++[v]:=by
   rw[List.take_succ_eq_append_getElem hlt,List.set_append_right _ _ (by simp;omega)]
   have:off+s - (cells.toList.take (off+s)).length=0:=by rw[List.length_take];omega
   rw[this];rfl
  rw[e2];simp only[List.length_cons,List.append_assoc,List.cons_append,List.nil_append];rw[show off+s+1+l.length=off+s+(l.length+1) from by omega]
theorem fold_cells(v:Value)(off:Nat)(cells:Array Value)(h:off+v.cells.size≤cells.size):
  v.cells.zipIdx.foldl (fun(cs:Array Value) (x:Value×Nat)=>cs.setIfInBounds (off+x.2) x.1) cells=(cells.toList.take off++v.cells.toList++cells.toList.drop (off+v.cells.size)).toArray:=by
 have:=foldl_set v.cells.toList 0 off cells (by simpa using h)
 rw[←Array.foldl_toList,Array.toList_zipIdx];simpa using this
def RepL(I:Imm)(w:World)(cs:List Value)(ps:List PV):Prop:=cs.length=ps.length∧∀(i:Nat) (p:PV),ps[i]?=some p→∃c,cs[i]?=some c∧Rep I w c p
theorem RepL.place{I:Imm}{cs:List Value}{ps:List PV}(h:RepL I w cs ps){ds:List Value}{qs:List PV}(h':RepL I w ds qs)(off:Nat)(hl:off+qs.length≤ps.length):
  RepL I w (cs.take off++ds++cs.drop (off+ds.length)) (AxA ps off qs):=by
 unfold AxA;refine⟨by simp[h.1,h'.1],fun i p hp=>?_⟩
 have e1:(cs.take off).length=off:=by rw[List.length_take,h.1];omega
 have e2:(ps.take off).length=off:=by rw[List.length_take];omega
 rw[List.append_assoc] at hp ⊢;by_cases h1:i<off
 ·rw[List.getElem?_append_left (by omega)] at hp ⊢
  rw[List.getElem?_take,if_pos h1] at hp ⊢
  exact h.2 i p hp
 ·rw[List.getElem?_append_right (by omega),e2] at hp
  rw[List.getElem?_append_right (by omega),e1]
  by_cases h2:i - off<qs.length
  ·rw[List.getElem?_append_left h2] at hp
   rw[List.getElem?_append_left (by rw[h'.1];exact h2)]
   exact h'.2 _ p hp
  ·rw[List.getElem?_append_right (by omega),List.getElem?_drop] at hp
   rw[List.getElem?_append_right (by rw[h'.1];omega),List.getElem?_drop,h'.1]
   exact h.2 _ p hp
theorem RepL.AJW{I:Imm}{v:Value}{p:PV}(h:Rep I w v p):RepL I w v.cells.toList p.cells:=by
 obtain⟨h1,h2⟩:=AxS h;refine⟨by simpa using h1,fun i q hq=>?_⟩
 have hlt:i<v.cells.size:=by have:=(List.getElem?_eq_some_iff.1 hq).1;omega
 refine⟨v.cells[i],by rw[Array.getElem?_toList];exact Array.getElem?_eq_getElem hlt,?_⟩
 have:=h2 i q hq;simpa [Array.getD,hlt] using this
theorem RepL.agg{I:Imm}{cs:Array Value}{ps:List PV}(h:RepL I w cs.toList ps):Rep I w (.agg cs) (.agg ps):=by
 refine .agg (by simpa using h.1) fun i p hp=>?_
 obtain⟨c,hc,hr⟩:=h.2 i p hp;rw[Array.getElem?_toList] at hc
 rw[Array.getD_eq_getD_getElem?,hc];exact hr
theorem fill_rep{I:Imm}{places:List (Nat×Nat)}:∀(parts:List (Nat×Operand)) (pl:List (Nat×Nat)) (vs:List PV) (cells:Array Value) (cs cs':List PV),
  AjX places parts=some pl→fillP cs pl vs=some cs'→RepL I w cells.toList cs→
  (∀(i:Nat) (x:Nat×Operand) (p:PV),parts[i]?=some x→vs[i]?=some p→p.flat=true→Rep I w (a.eval x.2) p)→
  ∃cells',Instr.fill (places.toArray[·]?) cells (parts.map fun x=>(x.1,a.eval x.2))=some cells'∧RepL I w cells'.toList cs'
 |[],pl,vs,cells,cs,cs',hp,hf,hr,_=>by
  cases hp;cases vs with
  |nil=>simp only[fillP] at hf;cases hf;exact⟨cells,rfl,hr⟩
  |cons _ _=>simp[fillP] at hf
 |(i,x)::parts,pl,vs,cells,cs,cs',hp,hf,hr,hrep=>by
  simp only[AjX] at hp
  split at hp
  ·rename_i p ps h1 h2;cases hp;obtain⟨off,n⟩:=p;cases vs with
   |nil=>simp[fillP] at hf
   |cons v vs=>
    simp only[fillP] at hf
    split at hf
    ·rename_i hc;obtain⟨hc1,hc2,hc3⟩:=hc;have hv:Rep I w (a.eval x) v:=(hrep 0 (i,x) v rfl rfl hc3);have hcell:=RepL.AJW hv.Aq0;have hsz:=(AxS hv).1;have hlen:cells.size=cs.length:=by simpa using hr.1
     have hnew:RepL I w ((a.eval x).cells.zipIdx.foldl (fun(cs:Array Value) (x:Value×Nat)=>cs.setIfInBounds (off+x.2) x.1) cells).toList (AxA cs off v.Aq0.cells):=by
      rw[fold_cells _ _ _ (by omega)]
      have:=hr.place hcell off (by rw[AqP];omega)
      simpa using this
     obtain⟨cells',h3,h4⟩:=fill_rep parts ps vs _ _ cs' h2 hf hnew (fun k y p hy hp hfl=>hrep (k+1) y p (by simpa using hy) (by simpa using hp) hfl)
     refine⟨cells',?_,h4⟩
     have hpl:places.toArray[i]?=some (off,n):=by simpa using h1
     simp only[List.map_cons,Instr.fill,hpl];rw[if_neg (by simp;omega)]
     exact h3
    ·cases hf
  ·cases hp
theorem sim_build(hi:Inv cx G a w A σ)(hkd:∀t,cx.kd t=fi.kind t)(hnt:cx.nt=fi.nt){o:Oper}{t:TypeId}{ps:Array (Nat×Operand)}(ho:o.op=.build t ps)
  {fs:Array Field} (hs':P.underlying t=some (.struct fs)) {z:List PV} (hz:zeroP P t=some (.agg z)) {places:List (Nat×Nat)}
  (hpl:fs.toList.mapM (fun f=>(P.info? f.type).map fun i=>(f.offset,i.size))=some places) {pl:List (Nat×Nat)} (hpp:AjX places ps.toList=some pl)
  {as:List AArg} (hc:Aq2 fi (ps.toList.map (·.2))=some as) (hd:Aq7 fi o.dst=true) (hrun:runA pur call { dst:=o.dst,k:=.p (.build z pl),args:=as } A σ=some (A',σ')):Gives P cx o a w A' σ':=by
 refine givesN hi hkd hnt hd hrun hc fun vs rs hs hl hrep=>?_
 simp only[semP] at hs;obtain⟨cs',hcs,e⟩:=Option.map_eq_some_iff.1 hs;cases e;unfold zeroP at hz
 split at hz
 ·rename_i it hit;obtain⟨zv,hzv,hzp⟩:=Option.bind_eq_some_iff.1 hz;have hzr:Rep G.I w zv (.agg z):=AxF hzp
  obtain⟨cells',h1,h2⟩:=fill_rep (a:=a) (I:=G.I) (w:=w) ps.toList pl vs zv.cells z cs' hpp hcs (by simpa [PV.cells] using RepL.AJW hzr) (fun i x p hx hp hfl=>by
   exact(hrep i x.2 p (by rw[List.getElem?_map,hx];rfl) hp (AzS hfl)).flat hfl)
  have hb:P.built t ((ps.map fun(i,x)=>(i,a.eval x)).toList)=some cells':=by
   unfold Program.built;simp only[hit,hs',hzv,hpl];rw[←h1];congr 1;simp
  refine⟨_,.agg cells',rfl,rfl,?_,.one (.inl h2.agg),fun _=>trivial⟩
  simp[execOp,ho,run_build w t _ cells' hb]
 ·cases hz
theorem val_inj{k k':Ky}(h:k.val=k'.val):k=k':=by
 cases k<;>cases k'<;>simp[Ky.val] at h
 ·obtain⟨rfl,rfl⟩:=h;rfl
 ·rename_i l l';rw[h]
theorem sameNow_val{d:TypeDesc}{k k':Ky}(hk:sameKind k k'=true)(hd:(∃i,d=.int i)∧(∃i n,k=.i i n)∨d=.string∧∃l,k=.s l):
  Instr.sameNow d k.val k'.val=some (decide (k'=k)):=by
 rcases hd with⟨⟨i,rfl⟩,j,n,rfl⟩ | ⟨rfl,l,rfl⟩
 ·cases k' with
  |i j' n'=>
   simp only[sameKind,beq_iff_eq] at hk;subst hk;simp only[Ky.val,Instr.sameNow,if_true];congr 1;by_cases h:n=n'
   ·subst h;simp
   ·have:¬(Ky.i j n'=Ky.i j n):=fun e=>by cases e;exact h rfl
    rw[decide_eq_false this,beq_eq_false_iff_ne];exact h
  |s l=>simp[sameKind] at hk
 ·cases k' with
  |i j' n'=>simp[sameKind] at hk
  |s l'=>
   simp only[Ky.val,Instr.sameNow];congr 1;by_cases h:l=l'
   ·subst h;rw[decide_eq_true rfl];exact(Go.MapKept.bytes_beq _ _).2 rfl
   ·have h1:¬(Ky.s l'=Ky.s l):=fun e=>by cases e;exact h rfl
    rw[decide_eq_false h1];cases hb:((⟨⟨l⟩⟩:ByteArray)==⟨⟨l'⟩⟩) with
    |false=>rfl
    |true=>have:=(Go.MapKept.bytes_beq _ _).1 hb;cases this;exact absurd rfl h
theorem Av2{d:TypeDesc}{k:Ky}(hd:(∃i,d=.int i)∧(∃i n,k=.i i n)∨d=.string∧∃l,k=.s l):∀(es:List MapEntry) (s:Nat),
  (∀e∈es,∃k',e.key=k'.val∧sameKind k k'=true) → 
  (∃j e,es[j]?=some e∧e.key=k.val∧Instr.findNow d k.val es s=some (some (s+j,e.val)))∨((∀e∈es,e.key≠k.val)∧Instr.findNow d k.val es s=some none)
 |[],s,_=>.inr ⟨(fun e h=>by cases h),rfl⟩
 |e::es,s,h=>by
  obtain⟨k',h1,h2⟩:=h e (List.mem_cons_self ..);have hsn:=sameNow_val h2 hd;simp only[Instr.findNow,h1,hsn];by_cases hk:k'=k
  ·subst hk;rw[decide_eq_true rfl];exact .inl ⟨0,e,rfl,h1,rfl⟩
  ·rw[decide_eq_false hk];rcases Av2 hd es (s+1) (fun e he=>h e (List.mem_cons_of_mem _ he)) with⟨j,e',he,hke,hf⟩ | ⟨hno,hf⟩
   ·exact .inl ⟨j+1,e',by simpa using he,hke,by rw[hf,show s+1+j=s+(j+1) from by omega]⟩
   ·refine .inr ⟨fun e' he'=>?_,hf⟩
    rcases List.mem_cons.1 he' with rfl | h'
    ·rw[h1];exact fun e=>hk (val_inj e)
    ·exact hno e' h'
theorem AX7(k:Ky):∀(ks:List Ky) (vs:List PV),vs.length=ks.length→(∀v,findKey k ks vs=some v→∃j:Nat,ks[j]?=some k∧vs[j]?=some v)∧(findKey k ks vs=none→k∉ks)
 |[],vs,_=>by cases vs<;>simp[findKey]
 |x::ks,[],h=>by simp at h
 |x::ks,v::vs,h=>by
  obtain⟨h1,h2⟩:=AX7 k ks vs (by simpa using h)
  simp only[findKey];split
  ·rename_i hx;subst hx;exact⟨fun u hu=>⟨0,rfl,by simpa using hu⟩,fun h=>by cases h⟩
  ·rename_i hx;refine⟨fun u hu=>?_,fun hn=>?_⟩
   ·obtain⟨j,hj1,hj2⟩:=h1 u hu;exact⟨j+1,by simpa using hj1,by simpa using hj2⟩
   ·simp only[List.mem_cons,not_or];exact⟨fun e=>hx e.symm,h2 hn⟩
theorem RepT.mapv_inv{I:Imm}{bl:Bl}{v:Value}{ks:List Ky}{vs:List PV}(h:RepT I bl w v (.mapv ks vs)):∃r clock es,∃ix:Nat→Nat,v=.map (some r)∧w.heap[r]?=some (.map es clock)∧vs.length=ks.length∧
  (∀(i:Nat) (e:MapEntry),es[i]?=some e→∃k∈ks,e.key=k.val)∧(∀(i j:Nat) (e f:MapEntry),es[i]?=some e→es[j]?=some f→e.key=f.key→i=j)∧
  (∀(j:Nat) (k:Ky),ks[j]?=some k→((es[ix j]?).map (·.key))=some k.val)∧(∀(j:Nat) (e:MapEntry) (p:PV),es[ix j]?=some e→vs[j]?=some p→Rep I w e.val p):=by
 cases h.rep rfl (by simp) (by simp) with
 |mapv ix h1 h2 h3 h4 h5 h6 h7=>exact⟨_,_,_,ix,rfl,h2,h3,h4,h5,h6,h7⟩
theorem run_checkKey{empty:Bool}{t:TypeId}{d:TypeDesc}(ht:P.underlying t=some d)(hd:(∃k,d=.int k)∨d=.string)(v:Value):(Instr.checkKey empty 10000 t v).run P w=.ok () w:=by
 show(Instr.checkKey empty (9999+1) t v).run P w=_;generalize 9999=n;rcases hd with⟨k,rfl⟩ | rfl<;>simp[Instr.checkKey,underlying,ht]
theorem kyOf_val{p:PV}{k:Ky}(h:kyOf p=some k){v:Value}{I:Imm}{bl:Bl}(hr:RepT I bl w v p):v=k.val:=by
 cases p with
 |int i n=>simp only[kyOf] at h;cases h;exact hr.AqF
 |str l=>
  simp only[kyOf] at h;cases h;obtain⟨s,rfl,rfl⟩:=hr.Ax2;cases s;rfl
 |_=>simp[kyOf] at h
theorem AQP{p:PV}{k:Ky}(h:kyOf p=some k):p.free=true:=by cases p<;>first | rfl | simp[kyOf] at h
theorem sim_look(hi:Inv cx G a w A σ)(hkd:∀t,cx.kd t=fi.kind t)(hnt:cx.nt=fi.nt){o:Oper}{t kt et:TypeId}{x y:Operand}{ok:Bool}(ho:o.op=.lookup t x y ok)(ht:P.underlying t=some (.map kt et))
  {d:TypeDesc} (hkt:P.underlying kt=some d) (hdk:(∃k,d=.int k)∨d=.string) {z:PV} (hz:zeroP P et=some z)
  {as:List AArg} (hc:Aq2 fi [x,y]=some as) (hd:Aq7 fi o.dst=true) (hrun:runA pur call { dst:=o.dst,k:=.p (.look z ok d.isInt),args:=as } A σ=some (A',σ')):Gives P cx o a w A' σ':=by
 refine gives2 hi hkd hnt hd hrun hc (AJK (V:=lookV z ok d.isInt) (fun _ _=>rfl) rfl (fun _=>rfl) (fun _ _ _ _=>rfl)) fun x' y' p q r hx hv hp hq=>?_
 cases hx;cases p with
 |mapv ks vs=>
  obtain⟨rr,clock,es,ix,ev,hheap,hlen,hkeys,hone,hlt,hrv⟩:=(hp rfl).mapv_inv;simp only[lookV] at hv
  split at hv
  ·rename_i k hk;have eq:=kyOf_val hk (hq (AQP hk))
   split at hv
   ·rename_i hc';obtain⟨hall,hint⟩:=hc'
    have hdd:(∃i,d=.int i)∧(∃i n,k=.i i n)∨d=.string∧∃l,k=.s l:=by
     rcases hdk with⟨i,rfl⟩ | rfl
     ·cases k with
      |i j n=>exact .inl ⟨⟨i,rfl⟩,j,n,rfl⟩
      |s l=>simp[TypeDesc.isInt,Ky.isInt] at hint
     ·cases k with
      |i j n=>simp[TypeDesc.isInt,Ky.isInt] at hint
      |s l=>exact .inr ⟨rfl,l,rfl⟩
    have hsk:∀e∈es.toList,∃k',e.key=k'.val∧sameKind k k'=true:=by
     intro e he;obtain⟨i,hie⟩:=List.mem_iff_getElem?.1 he;rw[Array.getElem?_toList] at hie
     obtain⟨k',hk',e'⟩:=hkeys i e hie;exact⟨k',e',List.all_eq_true.1 hall k' hk'⟩
    have hzr:∃zv,(zeroValue et).run P w=.ok zv w∧Rep G.I w zv z∧z.free=true:=by
     unfold zeroP at hz
     split at hz
     ·rename_i it hit;obtain⟨zv,hzv,hzp⟩:=Option.bind_eq_some_iff.1 hz;exact⟨zv,by simp[zeroValue,typeInfo,hit,hzv],AxF hzp,AQQ hzp⟩
     ·cases hz
    obtain⟨zv,hzrun,hzrep,hzfree⟩:=hzr;have hck:=run_checkKey (P:=P) (w:=w) (empty:=es.isEmpty) hkt hdk k.val;have hget:(getObj rr).run P w=.ok (.map es clock) w:=by simp[getObj,Sem.run,hheap]
    have hund:(underlying kt).run P w=.ok d w:=by simp[underlying,hkt]
    obtain⟨hs1,hs2⟩:=AX7 k ks vs hlen
    have fin:∀(u:PV) (c:Value) (b:Bool),Rep G.I w c u→u.free=true→r=(if ok then .tuple [u.Aq0,.bool b] else u.Aq0)→(execOp a.eval o).run P w=.ok (.value (if ok then .tuple #[c,.bool b] else c)) w→
      r.free=true∧∃v,(execOp a.eval o).run P w=.ok (.value v) w∧RepT G.I G.bl w v r∧∀tag,OwnOk G w tag v r:=by
     intro u c b hr hf e hrun;subst e;cases ok with
     |true=>
      refine⟨rfl,_,hrun,?_,fun _=>trivial⟩
      refine .tuple rfl fun i p hp=>?_
      match i with
      |0=>simp at hp;subst hp;exact .inl hr.Aq0
      |1=>simp at hp;subst hp;exact .inl (.bool b)
      |n+2=>simp at hp
     |false=>exact⟨by rw[if_neg (by simp),AqH];exact hf,_,hrun,.one (.inl hr.Aq0),fun _=>AqA u⟩
    rcases Av2 hdd es.toList 0 hsk with⟨j,e,hej,hke,hfn⟩ | ⟨hno,hfn⟩
    ·split at hv
     ·rename_i u hu
      split at hv
      ·rename_i hfu;cases hv;obtain⟨j',hj1,hj2⟩:=hs1 u hu;have hix:=hlt j' k hj1;obtain⟨e',he',hke'⟩:=Option.map_eq_some_iff.1 hix;rw[Array.getElem?_toList] at hej
       have hjj:=hone _ _ _ _ hej he' (hke.trans hke'.symm);rw[hjj,he'] at hej;cases hej;refine fin u e.val true (hrv j' e u he' hj2) hfu rfl ?_
       simp[execOp,ho,Instr.lookup,ht,underlying,ev,eq,hget,hck,Instr.findKey,hkt,hfn]
      ·cases hv
     ·rename_i hu
      exfalso
      rw[Array.getElem?_toList] at hej
      obtain⟨k',hk',e'⟩:=hkeys j e hej;have:=val_inj (e'.symm.trans hke);subst this;exact hs2 hu hk'
    ·split at hv
     ·rename_i u hu
      exfalso
      obtain⟨j',hj1,hj2⟩:=hs1 u hu;have hix:=hlt j' k hj1;obtain⟨e',he',hke'⟩:=Option.map_eq_some_iff.1 hix
      have:e'∈es.toList:=by
       rw[←Array.getElem?_toList] at he'
       exact List.mem_of_getElem? he'
      exact hno e' this hke'
     ·cases hv;refine fin z zv false hzrep hzfree rfl ?_
      simp[execOp,ho,Instr.lookup,ht,underlying,ev,eq,hget,hck,Instr.findKey,hkt,hfn,hzrun]
   ·cases hv
  ·cases hv
 |nilm=>
  have ev:a.eval x=.map none:=(hp rfl).nilm_inv;simp only[lookV] at hv
  split at hv
  ·rename_i k hk;have eq:=kyOf_val hk (hq (AQP hk))
   split at hv
   ·rename_i hint;cases hv
    have hzr:∃zv,(zeroValue et).run P w=.ok zv w∧Rep G.I w zv z∧z.free=true:=by
     unfold zeroP at hz
     split at hz
     ·rename_i it hit;obtain⟨zv,hzv,hzp⟩:=Option.bind_eq_some_iff.1 hz;exact⟨zv,by simp[zeroValue,typeInfo,hit,hzv],AxF hzp,AQQ hzp⟩
     ·cases hz
    obtain⟨zv,hzrun,hzrep,hzfree⟩:=hzr;have hck:=run_checkKey (P:=P) (w:=w) (empty:=true) hkt hdk k.val
    have hrun:(execOp a.eval o).run P w=.ok (.value (if ok then .tuple #[zv,.bool false] else zv)) w:=by
     simp[execOp,ho,Instr.lookup,ht,underlying,ev,eq,hck,Instr.findKey,hkt,Instr.findNow,hzrun]
    cases ok with
    |true=>
     refine⟨rfl,_,hrun,?_,fun _=>trivial⟩
     refine .one (.inl (.tuple rfl fun i p hp=>?_))
     match i with
     |0=>simp at hp;subst hp;exact hzrep.Aq0
     |1=>simp at hp;subst hp;exact .bool false
     |n+2=>simp at hp
    |false=>exact⟨by rw[if_neg (by simp),AqH];exact hzfree,_,hrun,.one (.inl hzrep.Aq0),fun _=>AqA z⟩
   ·cases hv
  ·cases hv
 |_=>simp[lookV] at hv
end
end Go.Abs
