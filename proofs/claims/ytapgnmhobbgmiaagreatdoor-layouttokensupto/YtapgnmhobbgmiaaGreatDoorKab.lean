/- A part of the proof: A6 A7 A8 A9 A10 A11 A12 A13. -/
import Derived.Test.YtapgnmhobbgmiaaGreatDoorKaa
import Derived.Laws.Tables
import Derived.MapKept

set_option linter.unusedVariables false
set_option linter.unusedSimpArgs false
namespace Go.Abs
open Go.RowKit
def FW(ro:Option Nat):Fence:={ fn:=fun _=>True,depth:=none,alive:=false,round:=ro }
theorem fO{ro:Option Nat}{n:Nat}{P:Program}{o:Oper}{a:Act}{w w':World}{K:Act→World→Prop}{Q:Exit→Act→World→Prop}{v:Value}
  (hd:∀c,o.op≠.defer c) (hr:(execOp a.eval o).run P w=.ok (.value v) w') (hk:K (a.put o.dst v) w'):o.wpIn (FW ro) n P a w K Q:=by
 refine⟨fun _ _=>trivial,?_⟩
 rw[Oper.semAt_eq _ _ _ hd,hr];exact hk
theorem lg{ro:Option Nat}{n:Nat}{P:Program}{o:Oper}{a:Act}{w w':World}{K:Act→World→Prop}{Q:Exit→Act→World→Prop}
  (hd:∀c,o.op≠.defer c) (hr:(execOp a.eval o).run P w=.ok .skip w') (hk:K (a.put o.dst undef) w'):o.wpIn (FW ro) n P a w K Q:=by
 refine⟨fun _ _=>trivial,?_⟩
 rw[Oper.semAt_eq _ _ _ hd,hr];exact hk
section inv
variable{I:Imm}{bl:Bl}{w:World}{v:Value}
theorem Bz.rep{p:PV}(h:Bz I bl w v p)(h1:p.Gi=false)(h2:∀f fs cs,p≠.func f fs cs)(h3:∀vs,p≠.tuple vs)(h4:∀cs,p≠.aggr cs:=by simp):Rep I w v p:=by
 cases h with
 |one h=>
  rcases h with h | h
  ·exact h
  ·cases h<;>cases h1
 |func _ _ _ _=>exact absurd rfl (h2 _ _ _)
 |tuple _ _=>exact absurd rfl (h3 _)
 |aggr _ _=>exact absurd rfl (h4 _)
theorem Bz.Ic{b:Bool}(h:Bz I bl w v (.bool b)):v=.bool b:=by
 cases h.rep rfl (by simp) (by simp);rfl
theorem Bz.CF{k:IntKind}{n:Int}(h:Bz I bl w v (.int k n)):v=.int k n:=by
 cases h.rep rfl (by simp) (by simp);rfl
theorem Bz.EU{l:List UInt8}(h:Bz I bl w v (.str l)):∃s:ByteArray,v=.string s∧s.data.toList=l:=by
 cases h.rep rfl (by simp) (by simp);exact⟨_,rfl,rfl⟩
theorem Bz.FK(h:Bz I bl w v .nils):v=.slice none 0 0:=by
 cases h.rep rfl (by simp) (by simp);rfl
theorem Bz.Tg(h:Bz I bl w v .nilm):v=.map none:=by
 cases h.rep rfl (by simp) (by simp);rfl
theorem Bz.Ju(h:Bz I bl w v .empt):∃a,v=.slice (some a) 0 0:=by
 cases h.rep rfl (by simp) (by simp);exact⟨_,rfl⟩
theorem Bz.Ti(h:Bz I bl w v .nilf):v=.nilFunc:=by
 cases h.rep rfl (by simp) (by simp);rfl
theorem Bz.RO{ps:List PV}(h:Bz I bl w v (.agg ps)):∃cs:Array Value,v=.agg cs∧cs.size=ps.length∧∀(i:Nat) (p:PV),ps[i]?=some p→Rep I w (cs.getD i undef) p:=by
 cases h.rep rfl (by simp) (by simp) with
 |agg h hr=>exact⟨_,rfl,h,hr⟩
theorem Bz.JV{x:PV}(h:Bz I bl w v (.vptr x)):∃b off,∃cv:Nat→Value,v=.pointer (some ⟨b,off,none⟩)∧(∀(j:Nat) (p:PV),x.cells[j]?=some p→I b (some (off+j)))∧
  (∀(j:Nat) (p:PV),x.cells[j]?=some p→w.cell? ⟨b,off+j,none⟩=some (cv j))∧(∀(j:Nat) (p:PV),x.cells[j]?=some p→Rep I w (cv j) p):=by
 cases h.rep rfl (by simp) (by simp) with
 |vptr cv h1 h2 h3=>exact⟨_,_,cv,rfl,h1,h2,h3⟩
theorem Bz.Jm{id off:Nat}(h:Bz I bl w v (.ref id off)):∃b,bl.l[id]?=some b∧v=.pointer (some ⟨b,off,none⟩):=by
 cases h with
 |one h=>
  rcases h with h | h
  ·cases h
  ·cases h with
   |ref h=>exact⟨_,h,rfl⟩
theorem Bz.Jn{id gen off len size:Nat}(h:Bz I bl w v (.arr id gen off len size)):∃b base n cap b' o',bl.ab id gen=some (b,base,n)∧len≤cap∧
  base+(off+cap) * size≤n∧(0<cap→b'=b∧o'=base+off * size)∧v=.slice (some ⟨b',o',none⟩) len cap:=by
 cases h with
 |one h=>
  rcases h with h | h
  ·cases h
  ·cases h with
   |arr h h1 h2 h3=>exact⟨_,_,_,_,_,_,h,h1,h2,h3,rfl⟩
theorem Bz.Km{id gen size i off:Nat}(h:Bz I bl w v (.aptr id gen size i off)):∃b base n,bl.ab id gen=some (b,base,n)∧v=.pointer (some ⟨b,base+i * size+off,none⟩):=by
 cases h with
 |one h=>
  rcases h with h | h
  ·cases h
  ·cases h with
   |aptr h=>exact⟨_,_,_,h,rfl⟩
theorem Bz.Kh{id:Nat}(h:Bz I bl w v (.mref id)):∃b,bl.l[id]?=some b∧v=.map (some b):=by
 cases h with
 |one h=>
  rcases h with h | h
  ·cases h
  ·cases h with
   |mref h=>exact⟨_,h,rfl⟩
theorem Bz.VF{ps:List PV}(h:Bz I bl w v (.tuple ps)):∃cs:Array Value,v=.tuple cs∧cs.size=ps.length∧∀(i:Nat) (p:PV),ps[i]?=some p→JD I bl w (cs.getD i undef) p:=by
 cases h with
 |one h=>
  rcases h with h | h
  ·cases h with
   |tuple h hr=>exact⟨_,rfl,h,fun i p hp=>.inl (hr i p hp)⟩
  ·cases h
 |tuple h hr=>exact⟨_,rfl,h,hr⟩
theorem Bz.UD{ps:List PV}(h:Bz I bl w v (.aggr ps)):∃cs:Array Value,v=.agg cs∧cs.size=ps.length∧∀(i:Nat) (p:PV),ps[i]?=some p→JD I bl w (cs.getD i undef) p:=by
 cases h with
 |one h=>
  rcases h with h | h
  ·cases h
  ·cases h
 |aggr h hr=>exact⟨_,rfl,h,hr⟩
theorem Bz.Lh{f:FuncId}{first cap:List PV}(h:Bz I bl w v (.func f first cap)):∃fs cs:Array Value,v=.func (.func f) fs cs∧fs.size=first.length∧cs.size=cap.length∧
  (∀(i:Nat) (p:PV),first[i]?=some p→JD I bl w (fs.getD i undef) p)∧(∀(i:Nat) (p:PV),cap[i]?=some p→JD I bl w (cs.getD i undef) p):=by
 cases h with
 |one h=>
  rcases h with h | h
  ·cases h with
   |func h1 h2 hf hc=>exact⟨_,_,rfl,h1,h2,fun i p hp=>.inl (hf i p hp),fun i p hp=>.inl (hc i p hp)⟩
  ·cases h
 |func h1 h2 hf hc=>exact⟨_,_,rfl,h1,h2,hf,hc⟩
theorem Bz.FB{own:Bool}{size:Nat}{es:List PV}(h:Bz I bl w v (.slice own size es)):∃a len cap,∃cv:Nat→Nat→Value,v=.slice (some a) len cap∧len=es.length∧len≤cap∧(es≠[]→a.spot=none)∧
  (∀(i:Nat) (e:PV),es[i]?=some e→e.cells.length=size)∧
  (∀(i:Nat) (e:PV) (j:Nat) (p:PV),es[i]?=some e→e.cells[j]?=some p→I a.block (some (a.off+i * size+j)))∧
  (∀(i:Nat) (e:PV) (j:Nat) (p:PV),es[i]?=some e→e.cells[j]?=some p→w.cell? ⟨a.block,a.off+i * size+j,none⟩=some (cv i j))∧
  (∀(i:Nat) (e:PV) (j:Nat) (p:PV),es[i]?=some e→e.cells[j]?=some p→Rep I w (cv i j) p):=by
 cases h.rep rfl (by simp) (by simp) with
 |slice cv h1 h2 h3 h4 h5 h6 h7=>exact⟨_,_,_,cv,rfl,h1,h2,h3,h4,h5,h6,h7⟩
end inv
theorem Rep.Cc{I:Imm}{w:World}{v:Value}{p:PV}(h:Rep I w v p):Rep I w v p.Cc:=by
 cases h<;>first | exact .slice _ ‹_› ‹_› ‹_› ‹_› ‹_› ‹_› ‹_› | (constructor<;>assumption)
theorem Rep.Ae{I:Imm}{w:World}{v:Value}{p:PV}(h:Rep I w v p):Rep I w v p.Ae:=by
 cases h with
 |agg h hr=>
  refine .agg (by simpa using h) fun i p hp=>?_
  rw[Am] at hp;obtain⟨q,hq,rfl⟩:=Ac.1 hp;exact(hr i q hq).Cc
 |slice _ h1 h2 h3 h4 h5 h6 h7=>exact .slice _ h1 h2 h3 h4 h5 h6 h7
 |bool b=>exact .bool b
 |int k n=>exact .int k n
 |str s=>exact .str s
 |nilp=>exact .nilp
 |vptr cv h1 h2 h3=>exact .vptr cv h1 h2 h3
 |nils=>exact .nils
 |empt=>exact .empt
 |nili=>exact .nili
 |nilm=>exact .nilm
 |mapv ix h1 h2 h3 h4 h5 h6 h7=>exact .mapv ix h1 h2 h3 h4 h5 h6 h7
 |nilf=>exact .nilf
 |func h1 h2 h3 h4=>exact .func h1 h2 h3 h4
 |tuple h hr=>exact .tuple h hr
theorem IK.Ae{bl:Bl}{v:Value}{p:PV}(h:IK bl v p):p.Ae=p:=by cases h<;>rfl
theorem IK.Cc{bl:Bl}{v:Value}{p:PV}(h:IK bl v p):p.Cc=p:=by cases h<;>rfl
theorem Bz.Ae{I:Imm}{bl:Bl}{w:World}{v:Value}{p:PV}(h:Bz I bl w v p):Bz I bl w v p.Ae:=by
 cases h with
 |one h=>
  rcases h with h | h
  ·exact .one (.inl h.Ae)
  ·exact .one (.inr (by rw[h.Ae];exact h))
 |func h1 h2 h3 h4=>exact .func h1 h2 h3 h4
 |tuple h hr=>exact .tuple h hr
 |aggr h hr=>
  refine .aggr (by simpa using h) fun i p hp=>?_
  rw[Am] at hp;obtain⟨q,hq,rfl⟩:=Ac.1 hp;rcases hr i q hq with h' | h'
  ·exact .inl h'.Cc
  ·refine .inr ?_
   rw[h'.Cc];exact h'
theorem Cr{G:Gh}{w:World}{tag:Tag}{c:Value}(p:PV):Eo G w tag c p.Ae:=by
 cases p<;>exact trivial
theorem UH{G:Gh}{w:World}{tag:Tag}{c:Value}(p:PV):Eo G w tag c p.Cc:=by
 cases p<;>exact trivial
theorem Da(p:PV):p.Ae.free=p.free:=by cases p<;>rfl
theorem Ea(p:PV):p.Ae.cells.length=p.cells.length:=by cases p<;>simp[PV.Ae,PV.cells]
theorem SA{I:Imm}{w:World}{v:Value}{p:PV}(h:Kb v=some p):Rep I w v p:=by
 unfold Kb at h
 split at h<;>first | (cases h;constructor) | cases h
theorem Sz{I:Imm}{w:World}:∀{vs:List Value} {ps:List PV},Qr vs=some ps→vs.length=ps.length∧∀(i:Nat) (p:PV),ps[i]?=some p→∃v,vs[i]?=some v∧Rep I w v p
 |[],ps,h=>by cases h;exact⟨rfl,fun i p hp=>by simp at hp⟩
 |v::vs,ps,h=>by
  unfold Qr at h
  split at h
  ·rename_i q qs h1 h2;cases h;obtain⟨e,hr⟩:=Sz (I:=I) (w:=w) h2;refine⟨by simp[e],fun i p hp=>?_⟩
   cases i with
   |zero=>simp at hp;subst hp;exact⟨v,rfl,SA h1⟩
   |succ i=>simpa using hr i p (by simpa using hp)
  ·cases h
theorem F8{I:Imm}{w:World}{v:Value}{p:PV}(h:QZ v=some p):Rep I w v p:=by
 unfold QZ at h
 split at h
 ·rename_i cs;obtain⟨ps,hps,rfl⟩:=Ac.1 h;obtain⟨e,hr⟩:=Sz (I:=I) (w:=w) hps;refine .agg (by simpa using e) fun i p hp=>?_
  obtain⟨v,hv,hrep⟩:=hr i p hp
  have:cs.getD i undef=v:=by
   rw[Aj];rw[Ay] at hv;simp[hv]
  rw[this];exact hrep
 ·exact SA h
theorem dh{v:Value}{p:PV}(h:Kb v=some p):p.free=true:=by
 unfold Kb at h
 split at h<;>first | (cases h;rfl) | cases h
theorem OG{v:Value}{p:PV}(h:QZ v=some p):p.free=true:=by
 unfold QZ at h
 split at h
 ·obtain⟨ps,_,rfl⟩:=Ac.1 h;rfl
 ·exact dh h
def SK.val:SK→Bool
 |.plain | .imm | .obj=>true
 |_=>false
theorem BZ{cx:Cx}{G:Gh}{a:Act}{w:World}{t:Nat}{v:PV}(hk:(cx.kd t).val=true)(hf:v.free=true):
  Eg cx G a w t v↔(Bz G.I G.bl w (at' a t) v∧Eo G w (.slot t none) (at' a t) v):=by
 unfold Eg;cases h:cx.kd t<;>rw[h] at hk<;>simp[SK.val] at hk<;>dsimp only<;>(split<;>first | exact Iff.rfl | (simp[PV.free] at hf))
theorem Bp{fi:FI}{cx:Cx}{G:Gh}{a:Act}{w:World}{A:Frm}{σ:Sto}(hi:Inv cx G a w A σ)(hkd:∀t,cx.kd t=fi.kind t)
  {x:Operand} {y:CQ} (hc:F4 fi x=some y) {p:PV} (he:BS A [y]=some [p]) (hf:p.free=true):Bz G.I G.bl w (a.eval x) p:=by
 cases x with
 |tmp t=>
  simp only[F4] at hc
  have hy:y=.slot t∧(cx.kd t).val=true:=by
   rw[hkd]
   split at hc<;>first | (rename_i hk;rw[hk];split at hc<;>first | (cases hc;exact⟨rfl,rfl⟩) | cases hc) | cases hc
  obtain⟨rfl,hv⟩:=hy;simp only[BS] at he
  split at he
  ·rename_i v vs hg hv';cases hv';cases he;exact((BZ hv hf).1 (hi.slot t _ hg)).1
  ·cases he
 |const v=>
  simp only[F4] at hc;obtain⟨q,hq,rfl⟩:=Ac.1 hc;simp[BS] at he;subst he;exact .one (.inl (F8 hq))
 |func f=>
  simp only[F4] at hc;cases hc;simp[BS] at he;subst he;exact .one (.inl (.func rfl rfl (fun i p h=>by simp at h) (fun i p h=>by simp at h)))
 |global g=>cases hc
theorem Ar{A:Frm}{y:CQ}{ys:List CQ}{ps:List PV}(h:BS A (y::ys)=some ps):∃p qs,ps=p::qs∧BS A [y]=some [p]∧BS A ys=some qs:=by
 cases y with
 |slot t=>
  simp only[BS] at h ⊢
  split at h
  ·rename_i v vs hg hv;cases h;exact⟨v,vs,rfl,by simp[hg],hv⟩
  ·cases h
 |val v=>
  simp only[BS] at h ⊢;obtain⟨qs,hq,rfl⟩:=Ac.1 h;exact⟨v,qs,rfl,rfl,hq⟩
theorem AV{fi:FI}{x:Operand}{xs:List Operand}{ys:List CQ}(h:Ap fi (x::xs)=some ys):∃y zs,ys=y::zs∧F4 fi x=some y∧Ap fi xs=some zs:=by
 simp only[Ap] at h
 split at h
 ·rename_i y zs h1 h2;cases h;exact⟨y,zs,rfl,h1,h2⟩
 ·cases h
theorem Ux{fi:FI}{cx:Cx}{G:Gh}{a:Act}{w:World}{A:Frm}{σ:Sto}(hi:Inv cx G a w A σ)(hkd:∀t,cx.kd t=fi.kind t):
  ∀{xs:List Operand} {ys:List CQ},Ap fi xs=some ys→∀{ps:List PV},BS A ys=some ps→(∀p∈ps,p.free=true)→
   xs.length=ps.length∧∀(i:Nat) (x:Operand) (p:PV),xs[i]?=some x→ps[i]?=some p→Bz G.I G.bl w (a.eval x) p
 |[],ys,hc,ps,he,_=>by
  cases hc;cases he;exact⟨rfl,fun i x p h=>by simp at h⟩
 |x::xs,ys,hc,ps,he,hf=>by
  obtain⟨y,zs,rfl,h1,h2⟩:=AV hc;obtain⟨p,qs,rfl,h3,h4⟩:=Ar he;obtain⟨hl,hr⟩:=Ux hi hkd h2 h4 (fun p hp=>hf p (AA _ hp))
  refine⟨by simp[hl],fun i x' p' hx hp=>?_⟩
  cases i with
  |zero=>simp at hx hp;subst hx hp;exact Bp hi hkd h1 h3 (hf _ (AR ..))
  |succ i=>exact hr i x' p' (by simpa using hx) (by simpa using hp)
def Jc(A:Frm)(dst:Option Nat)(p:PV):Frm:=match dst with | some d=>A.set d (some p) | none=>A
theorem Inv.NH{cx:Cx}{G G':Gh}{a:Act}{w w':World}{A:Frm}{σ:Sto}(h:Inv cx G a w A σ)(he:Ext (fun _=>False) G G' w w')(hb:Base cx G' w')
  (hbl:G'.bl=G.bl) (dst:Option Nat) (hdst:∀d,dst=some d→d<cx.nt∧(cx.kd d).val=true) {v:Value} {p:PV} (hf:p.free=true)
  (hr:Bz G'.I G'.bl w' v p) (ho:∀d,dst=some d→Eo G' w' (.slot d none) v p):Inv cx G' (a.put dst v) w' (Jc A dst p) σ:=by
 refine h.step (fun _=>False) dst v he hb ?_ ?_ (fun _ cs hc=>.inl ⟨hc,fun _ h=>h⟩) (by rw[hbl];exact h.len) (by rw[hbl];exact h.abl)
 ·cases dst<;>simp[Jc]
 ·intro t q hq;cases dst with
  |none=>
   exact .inl ⟨hq,by simp,fun _=>id,fun _ _ _ _=>by simp,fun _ _=>⟨by simp,id⟩⟩
  |some d=>
   obtain⟨hd1,hd2⟩:=hdst d rfl;simp only[Jc,Dk] at hq
   split at hq
   ·rename_i hc;cases hq;refine .inr ?_
    rw[hc.1,BZ hd2 hf,FO _ _ _ (by rw[h.size];exact hd1)]
    exact⟨hr,ho d rfl⟩
   ·rename_i hc;have hne:d≠t:=fun e=>hc ⟨e.symm,by have:=h.room;omega⟩
    refine .inl ⟨hq,fun e=>hne (Option.some.inj e),fun _=>id,fun d' off e hbx=>?_,fun m hm=>⟨?_,id⟩⟩
    ·intro e';have:=Option.some.inj e';subst this;rw[hbx] at hd2;simp[SK.val] at hd2
    ·intro e';have:=Option.some.inj e';subst this;obtain⟨keys,hk⟩:=cx.ents t d hm;rw[hk] at hd2;simp[SK.val] at hd2
end Go.Abs

namespace Go.Abs
open Go.RowKit
section
variable{P:Program}{pur:FuncId→Bool}{call:Caller}{fi:FI}{cx:Cx}{G:Gh}{a:Act}{w:World}{A A':Frm}{σ σ':Sto}
def Gives(P:Program)(cx:Cx)(o:Oper)(a:Act)(w:World)(A':Frm)(σ':Sto):Prop:=
 (∃v w',(execOp a.eval o).run P w=.ok (.value v) w'∧Sim cx (a.put o.dst v) w' A' σ') ∨
 (∃w',(execOp a.eval o).run P w=.ok .skip w'∧Sim cx (a.put o.dst undef) w' A' σ')
def Kept(d:Option Nat)(a a':Act):Prop:=∀t,d≠some t→at' a' t=at' a t
theorem MP(a:Act)(d:Option Nat)(v:Value):Kept d a (a.put d v):=fun t h=>Gq a d v t h
theorem Gives.wp{ro:Option Nat}{n:Nat}{o:Oper}{K:Act→World→Prop}{Q:Exit→Act→World→Prop}(h:Gives P cx o a w A' σ')(hd:∀c,o.op≠.defer c)
  (hk:∀a' w',Sim cx a' w' A' σ'→Kept o.dst a a'→K a' w'):o.wpIn (FW ro) n P a w K Q:=by
 rcases h with⟨v,w',h1,h2⟩ | ⟨w',h1,h2⟩
 ·exact fO hd h1 (hk _ _ h2 (MP _ _ _))
 ·exact lg hd h1 (hk _ _ h2 (MP _ _ _))
theorem Ee(hkd:∀t,cx.kd t=fi.kind t)(hnt:cx.nt=fi.nt){d:Option Nat}(h:BC fi d=true):∀t,d=some t→t<cx.nt∧(cx.kd t).val=true:=by
 rintro t rfl
 simp only[BC,Dj,Ai,decide_eq_true_eq] at h;obtain⟨h1,h2⟩:=h;rw[hnt,hkd];refine⟨h1,?_⟩
 split at h2
 ·rename_i hk;rw[hk];rfl
 ·cases h2
theorem RJ{d:Option Nat}{k:AK}{args:Option (List CQ)}{ex:List Nat}{ao:AOp}(h:mk fi d k args ex=some ao):
  ∃az,args=some az∧ao={ dst:=d,k,args:=az,ex }∧BC fi d=true∧ex.all (Dj fi)=true∧ex.all (fun t=>d != some t)=true:=by
 unfold mk at h
 split at h
 ·rename_i hc;simp only[Ai] at hc;obtain⟨az,h1,h2⟩:=Ac.1 h;exact⟨az,h1,h2.symm,hc.1.1,hc.1.2,hc.2⟩
 ·cases h
theorem kI{d:Option Nat}{k:PK}{az:List CQ}(h:BU pur call { dst:=d,k:=.p k,args:=az } A σ=some (A',σ')):
  ∃vs rs,BS A az=some vs∧Be k vs=some rs∧σ'=σ∧∀p,rs=[some p]→A'=Jc A d p:=by
 unfold BU at h;dsimp only at h
 split at h
 ·rename_i vs hvs;simp only[sem] at h
  split at h
  ·rename_i rs σ₁ hs;obtain⟨rs',hrs,e⟩:=Ac.1 hs;cases e;refine⟨vs,rs,hvs,hrs,?_,?_⟩
   ·split at h
    ·cases h;rfl
    ·split at h<;>cases h;rfl
   ·rintro p rfl
    cases d with
    |none=>
     simp at h;rw[←h.1];rfl
    |some d=>
     simp[AOp.wr,Dm] at h;rw[←h.1];rfl
  ·cases h
 ·cases h
theorem GX(hi:Inv cx G a w A σ)(hkd:∀t,cx.kd t=fi.kind t)(hnt:cx.nt=fi.nt){o:Oper}{k:PK}{az:List CQ}(hd:BC fi o.dst=true)
  (hrun:BU pur call { dst:=o.dst,k:=.p k,args:=az } A σ=some (A',σ'))
  (hsem:∀vs rs,BS A az=some vs→Be k vs=some rs→∃p v,rs=[some p]∧p.free=true∧(execOp a.eval o).run P w=.ok (.value v) w∧
   Bz G.I G.bl w v p∧∀tag,Eo G w tag v p):Gives P cx o a w A' σ':=by
 obtain⟨vs,rs,h1,h2,rfl,h3⟩:=kI hrun;obtain⟨p,v,rfl,hf,hr,hrep,how⟩:=hsem vs rs h1 h2;rw[h3 p rfl];exact .inl ⟨v,w,hr,G,hi.NH (Ext.refl _ _ _) hi.base rfl o.dst (Ee hkd hnt hd) hf hrep (fun _ _=>how _)⟩
theorem IY{p:PV}(h:p.flat=true):p.free=true:=by cases p<;>first | rfl | simp[PV.flat] at h
theorem MH{G:Gh}{w:World}{tag:Tag}{v:Value}{p:PV}(h:∀sz es,p≠.slice true sz es):Eo G w tag v p:=by
 unfold Eo;split
 ·exact absurd rfl (h _ _)
 ·trivial
theorem WP(hi:Inv cx G a w A σ)(hkd:∀t,cx.kd t=fi.kind t)(hnt:cx.nt=fi.nt){o:Oper}{x:Operand}(ho:o.op=.move x∨o.op=.assign x)
  {az:List CQ} (hc:Ap fi [x]=some az) (hd:BC fi o.dst=true) (hrun:BU pur call { dst:=o.dst,k:=.p .mv,args:=az } A σ=some (A',σ')):Gives P cx o a w A' σ':=by
 refine GX hi hkd hnt hd hrun fun vs rs he hs=>?_
 obtain⟨y,zs,rfl,hy,hz⟩:=AV hc;cases hz;obtain⟨p,qs,rfl,hp,hq⟩:=Ar he;cases hq;simp only[Be] at hs
 split at hs
 ·rename_i hf;cases hs;refine⟨_,a.eval x,rfl,by rw[Da];exact hf,?_,(Bp hi hkd hy hp hf).Ae,fun _=>Cr p⟩
  rcases ho with ho | ho<;>simp[execOp,ho]
 ·cases hs
theorem om(hi:Inv cx G a w A σ)(hkd:∀t,cx.kd t=fi.kind t)(hnt:cx.nt=fi.nt){o:Oper}{c x y:Operand}(ho:o.op=.pick c x y)
  {az:List CQ} (hc:Ap fi [c,x,y]=some az) (hd:BC fi o.dst=true) (hrun:BU pur call { dst:=o.dst,k:=.p .pick,args:=az } A σ=some (A',σ')):Gives P cx o a w A' σ':=by
 refine GX hi hkd hnt hd hrun fun vs rs he hs=>?_
 obtain⟨y1,zs,rfl,hy1,hz⟩:=AV hc;obtain⟨y2,zs,rfl,hy2,hz⟩:=AV hz;obtain⟨y3,zs,rfl,hy3,hz⟩:=AV hz;cases hz;obtain⟨p1,qs,rfl,hp1,hq⟩:=Ar he;obtain⟨p2,qs,rfl,hp2,hq⟩:=Ar hq;obtain⟨p3,qs,rfl,hp3,hq⟩:=Ar hq;cases hq;cases p1 with
 |bool b=>
  have hb:=(Bp hi hkd hy1 hp1 rfl).Ic;cases b
  ·simp only[Be] at hs;simp only[Bool.false_eq_true,if_false] at hs
   split at hs
   ·rename_i hf;cases hs;refine⟨_,a.eval y,rfl,by rw[Da];exact hf,?_,(Bp hi hkd hy3 hp3 hf).Ae,fun _=>Cr _⟩
    simp[execOp,ho,hb,asBool]
   ·cases hs
  ·simp only[Be] at hs;simp only[if_true] at hs
   split at hs
   ·rename_i hf;cases hs;refine⟨_,a.eval x,rfl,by rw[Da];exact hf,?_,(Bp hi hkd hy2 hp2 hf).Ae,fun _=>Cr _⟩
    simp[execOp,ho,hb,asBool]
   ·cases hs
 |_=>simp[Be] at hs
theorem vk(hi:Inv cx G a w A σ)(hkd:∀t,cx.kd t=fi.kind t)(hnt:cx.nt=fi.nt){o:Oper}{t:TypeId}{x:Operand}(ho:o.op=.unOp .not t x)
  {az:List CQ} (hc:Ap fi [x]=some az) (hd:BC fi o.dst=true) (hrun:BU pur call { dst:=o.dst,k:=.p .not,args:=az } A σ=some (A',σ')):Gives P cx o a w A' σ':=by
 refine GX hi hkd hnt hd hrun fun vs rs he hs=>?_
 obtain⟨y,zs,rfl,hy,hz⟩:=AV hc;cases hz;obtain⟨p,qs,rfl,hp,hq⟩:=Ar he;cases hq;cases p with
 |bool b=>
  have hb:=(Bp hi hkd hy hp rfl).Ic;simp only[Be] at hs;cases hs;exact⟨_,.bool (!b),rfl,rfl,by simp[execOp,ho,hb,Op.unary],.one (.inl (.bool _)),fun _=>trivial⟩
 |_=>simp[Be] at hs
theorem vO(hi:Inv cx G a w A σ)(hkd:∀t,cx.kd t=fi.kind t)(hnt:cx.nt=fi.nt){o:Oper}{i:Nat}{x:Operand}(ho:o.op=.extract x i)
  {az:List CQ} (hc:Ap fi [x]=some az) (hd:BC fi o.dst=true) (hrun:BU pur call { dst:=o.dst,k:=.p (.ext i),args:=az } A σ=some (A',σ')):Gives P cx o a w A' σ':=by
 refine GX hi hkd hnt hd hrun fun vs rs he hs=>?_
 obtain⟨y,zs,rfl,hy,hz⟩:=AV hc;cases hz;obtain⟨p,qs,rfl,hp,hq⟩:=Ar he;cases hq;cases p with
 |tuple ps=>
  obtain⟨cs,hv,hsz,hr⟩:=(Bp hi hkd hy hp rfl).VF;simp only[Be] at hs
  split at hs
  ·rename_i hf;obtain⟨q,hq,e⟩:=Ac.1 hs;cases e;have hlt:=(Ad.1 hq).1;have hlt':i<cs.size:=by omega
   refine⟨_,cs.getD i undef,rfl,?_,?_,(Bz.one (hr i q hq)).Ae,fun _=>Cr q⟩
   ·rw[Da];have:q∈ps:=Au hq;have:=Av.1 hf q this;exact this
   ·simp[execOp,ho,hv,Instr.extract,hlt',Array.getD]
  ·cases hs
 |_=>simp[Be] at hs
theorem vU(hi:Inv cx G a w A σ)(hkd:∀t,cx.kd t=fi.kind t)(hnt:cx.nt=fi.nt){o:Oper}{x:Operand}(ho:o.op=.nilCheck x)
  {az:List CQ} (hc:Ap fi [x]=some az) (hd:BC fi o.dst=true) (hrun:BU pur call { dst:=o.dst,k:=.p .chk,args:=az } A σ=some (A',σ')):Gives P cx o a w A' σ':=by
 refine GX hi hkd hnt hd hrun fun vs rs he hs=>?_
 obtain⟨y,zs,rfl,hy,hz⟩:=AV hc;cases hz;obtain⟨p,qs,rfl,hp,hq⟩:=Ar he;cases hq;cases p with
 |vptr q=>
  have h:=Bp hi hkd hy hp rfl;obtain⟨b,off,cv,hv,_⟩:=h.JV;simp only[Be] at hs;cases hs;exact⟨_,a.eval x,rfl,rfl,by simp[execOp,ho,hv],h,fun _=>trivial⟩
 |ref id off=>
  have h:=Bp hi hkd hy hp rfl;obtain⟨b,_,hv⟩:=h.Jm;simp only[Be] at hs;cases hs;exact⟨_,a.eval x,rfl,rfl,by simp[execOp,ho,hv],h,fun _=>trivial⟩
 |aptr id gen size i off=>
  have h:=Bp hi hkd hy hp rfl;obtain⟨b,_,_,_,hv⟩:=h.Km;simp only[Be] at hs;cases hs;exact⟨_,a.eval x,rfl,rfl,by simp[execOp,ho,hv],h,fun _=>trivial⟩
 |func f fs cs=>
  have h:=Bp hi hkd hy hp rfl;obtain⟨vs,ws,hv,_⟩:=h.Lh;simp only[Be] at hs;cases hs;exact⟨_,a.eval x,rfl,rfl,by simp[execOp,ho,hv],h,fun _=>trivial⟩
 |_=>simp[Be] at hs
theorem vR(hi:Inv cx G a w A σ)(hkd:∀t,cx.kd t=fi.kind t)(hnt:cx.nt=fi.nt){o:Oper}{s t:TypeId}{k k':IntKind}{x:Operand}(ho:o.op=.convert s t x)
  (hs':P.underlying s=some (.int k')) (ht:P.underlying t=some (.int k))
  {az:List CQ} (hc:Ap fi [x]=some az) (hd:BC fi o.dst=true) (hrun:BU pur call { dst:=o.dst,k:=.p (.cvt k),args:=az } A σ=some (A',σ')):Gives P cx o a w A' σ':=by
 refine GX hi hkd hnt hd hrun fun vs rs he hs=>?_
 obtain⟨y,zs,rfl,hy,hz⟩:=AV hc;cases hz;obtain⟨p,qs,rfl,hp,hq⟩:=Ar he;cases hq;cases p with
 |int j n=>
  have hv:=(Bp hi hkd hy hp rfl).CF;simp only[Be] at hs;cases hs;exact⟨_,.int k (k.wrap n),rfl,rfl,by simp[execOp,ho,hv,convert,underlying,hs',ht,Conv.intToInt],.one (.inl (.int _ _)),fun _=>trivial⟩
 |_=>simp[Be] at hs
end
end Go.Abs

namespace Go.Abs
open Go.RowKit
section
variable{P:Program}{pur:FuncId→Bool}{call:Caller}{fi:FI}{cx:Cx}{G:Gh}{a:Act}{w:World}{A A':Frm}{σ σ':Sto}
theorem dO{xs:List Operand}{az:List CQ}(hc:Ap fi xs=some az){p:PV}(he:BS A az=some [p]):
  ∃x y,xs=[x]∧az=[y]∧F4 fi x=some y∧BS A [y]=some [p]:=by
 cases xs with
 |nil=>cases hc;cases he
 |cons x xs=>
  obtain⟨y,zs,rfl,hy,hz⟩:=AV hc;obtain⟨q,qs,e,hq,hqs⟩:=Ar he;cases e;cases xs with
  |nil=>cases hz;exact⟨x,y,rfl,rfl,hy,hq⟩
  |cons x' xs=>
   obtain⟨y',zs',rfl,_,_⟩:=AV hz;obtain⟨_,_,e,_,_⟩:=Ar hqs;cases e
theorem Wv{xs:List Operand}{az:List CQ}(hc:Ap fi xs=some az){p q:PV}(he:BS A az=some [p,q]):
  ∃x x' y y',xs=[x,x']∧az=[y,y']∧F4 fi x=some y∧F4 fi x'=some y'∧BS A [y]=some [p]∧BS A [y']=some [q]:=by
 cases xs with
 |nil=>cases hc;cases he
 |cons x xs=>
  obtain⟨y,zs,rfl,hy,hz⟩:=AV hc;obtain⟨_,qs,e,hq,hqs⟩:=Ar he;cases e;obtain⟨x',y',rfl,rfl,h1,h2⟩:=dO hz hqs;exact⟨x,x',y,y',rfl,rfl,hy,h1,hq,h2⟩
theorem Ri(op:BinOp)(t:TypeId)(x y:Operand)(k k':IntKind)(n m:Int):(eqGuard op t x y (.int k n) (.int k' m)).run P w=.ok () w:=by
 cases op<;>rfl
theorem Rh(op:BinOp)(t:TypeId)(x y:Operand)(s s':ByteArray):(eqGuard op t x y (.string s) (.string s')).run P w=.ok () w:=by
 cases op<;>rfl
theorem Qj(op:BinOp)(t:TypeId)(x y:Operand)(s s':Bool):(eqGuard op t x y (.bool s) (.bool s')).run P w=.ok () w:=by
 cases op<;>rfl
theorem Qi(op:BinOp)(t:TypeId)(x y:Operand)(f:Fn)(vs ws:Array Value):(eqGuard op t x y (.func f vs ws) .nilFunc).run P w=.ok () w:=by
 cases op<;>rfl
theorem Qh(op:BinOp)(t:TypeId)(x y:Operand):(eqGuard op t x y .nilFunc .nilFunc).run P w=.ok () w:=by
 cases op<;>rfl
theorem Uq(op:BinOp)(t:TypeId)(k k':IntKind)(n m:Int):Go.binOp op t (.int k n) (.int k' m)=Go.binOp op 0 (.int k n) (.int k' m):=by
 cases op<;>rfl
theorem oU{op:BinOp}{t:TypeId}{k:IntKind}{n m:Int}{p:PV}(h:AQJ op k n m=some p):∃v,(Go.binOp op t (.int k n) (.int k m)).run P w=.ok v w∧Rep G.I w v p∧∀sz es,p≠.slice true sz es:=by
 have gen:(match Go.binOp op 0 (.int k n) (.int k m) with | .pure (.int k' n)=>some (PV.int k' n) | _=>none)=some p→∃v,(Go.binOp op t (.int k n) (.int k m)).run P w=.ok v w∧Rep G.I w v p∧∀sz es,p≠.slice true sz es:=by
  intro h;rw[Uq]
  split at h
  ·rename_i k' n' he;cases h;rw[he];exact⟨_,rfl,.int _ _,by simp⟩
  ·cases h
 cases op<;>simp only[AQJ] at h<;>first
  |exact gen h
  |(cases h;exact⟨.int _ _,by simp[Go.binOp,Op.intArith];rfl,.int _ _,by simp⟩)
  |(cases h;exact⟨.int _ _,by simp[Go.binOp,Op.intArith],.int _ _,by simp⟩)
  |(cases h;exact⟨.bool _,by simp[Go.binOp,Op.intCmp];rfl,.bool _,by simp⟩)
  |(cases h;exact⟨.bool _,by simp[Go.binOp,Op.intCmp],.bool _,by simp⟩)
theorem data_append(x y:ByteArray):(x++y).data.toList=x.data.toList++y.data.toList:=by
 simp
theorem oQ{op:BinOp}{t:TypeId}{x y:ByteArray}{p:PV}(h:yE op x.data.toList y.data.toList=some p):∃v,(Go.binOp op t (.string x) (.string y)).run P w=.ok v w∧Rep G.I w v p∧∀sz es,p≠.slice true sz es:=by
 cases op with
 |add=>
  simp only[yE] at h
  split at h
  ·rename_i hl;cases h;refine⟨.string (x++y),?_,?_,by simp⟩
   ·have h1:=Lib.size_eq x;have h2:=Lib.size_eq y
    have:¬(((x.size+y.size:Nat):Int) > IntKind.i64.max):=by
     unfold qX at hl;have:IntKind.i64.max=9223372036854775807:=by decide
     rw[this];omega
    simp only[Go.binOp,Op.stringOp];rw[if_neg this];rfl
   ·rw[←data_append];exact .str _
  ·cases h
 |eql=>cases h;exact⟨.bool _,by simp only[Go.binOp,Op.stringOp,CZ];rfl,.bool _,by simp⟩
 |neq=>cases h;exact⟨.bool _,by simp only[Go.binOp,Op.stringOp,CZ];rfl,.bool _,by simp⟩
 |lss=>cases h;exact⟨.bool _,by simp only[Go.binOp,Op.stringOp,CZ];rfl,.bool _,by simp⟩
 |leq=>cases h;exact⟨.bool _,by simp only[Go.binOp,Op.stringOp,CZ];rfl,.bool _,by simp⟩
 |gtr=>cases h;exact⟨_,by simp only[Go.binOp,Op.stringOp,CZ];rfl,.bool _,by simp⟩
 |geq=>cases h;exact⟨.bool _,by simp only[Go.binOp,Op.stringOp,CZ];rfl,.bool _,by simp⟩
 |_=>simp[yE] at h
theorem run_equal_bool{t:TypeId}(ht:P.underlying t=some .bool)(x y:Bool):(Op.equal t (.bool x) (.bool y)).run P w=.ok (x==y) w:=by
 show(Op.equalIn (9999+1) t (.bool x) (.bool y)).run P w=_;generalize 9999=d;simp[Op.equalIn,underlying,ht]
theorem Mv{t:TypeId}{ps rs:Array TypeId}{va:Bool}(ht:P.underlying t=some (.func ps rs va))(f:Fn)(vs ws:Array Value):(Op.equal t (.func f vs ws) .nilFunc).run P w=.ok false w:=by
 show(Op.equalIn (9999+1) t _ _).run P w=_;generalize 9999=d;simp[Op.equalIn,underlying,ht]
theorem Mt{t:TypeId}{ps rs:Array TypeId}{va:Bool}(ht:P.underlying t=some (.func ps rs va)):(Op.equal t .nilFunc .nilFunc).run P w=.ok true w:=by
 show(Op.equalIn (9999+1) t _ _).run P w=_;generalize 9999=d;simp[Op.equalIn,underlying,ht]
theorem binOp_eql{t:TypeId}{x y:Value}{b:Bool}(h:(Op.equal t x y).run P w=.ok b w)(hx:Go.binOp .eql t x y=(do pure (.bool (←Op.equal t x y)))):(Go.binOp .eql t x y).run P w=.ok (.bool b) w:=by
 rw[hx];simp only[Sem.run_bind,h,Result.andThen_ok,Sem.run_pure]
theorem binOp_neq{t:TypeId}{x y:Value}{b:Bool}(h:(Op.equal t x y).run P w=.ok b w)(hx:Go.binOp .neq t x y=(do pure (.bool (!(←Op.equal t x y))))):(Go.binOp .neq t x y).run P w=.ok (.bool !b) w:=by
 rw[hx];simp only[Sem.run_bind,h,Result.andThen_ok,Sem.run_pure]
theorem oV{op:BinOp}{t:TypeId}(ht:P.underlying t=some .bool){x y:Bool}{p:PV}(h:AQK op x y=some p):∃v,(Go.binOp op t (.bool x) (.bool y)).run P w=.ok v w∧Rep G.I w v p∧∀sz es,p≠.slice true sz es:=by
 cases op with
 |eql=>cases h;exact⟨_,binOp_eql (run_equal_bool ht x y) rfl,.bool _,by simp⟩
 |neq=>cases h;exact⟨_,binOp_neq (run_equal_bool ht x y) rfl,.bool _,by simp⟩
 |_=>simp[AQK] at h
theorem Ry(hi:Inv cx G a w A σ)(hkd:∀t,cx.kd t=fi.kind t)(hnt:cx.nt=fi.nt){o:Oper}{op:BinOp}{t yt:TypeId}{x y:Operand}(ho:o.op=.binOp op t x y yt)
  {c:Nat} (hbt:c=1→P.underlying t=some .bool) (hft:c=2→∃ps rs v,P.underlying t=some (.func ps rs v))
  {az:List CQ} (hc:Ap fi [x,y]=some az) (hd:BC fi o.dst=true) (hrun:BU pur call { dst:=o.dst,k:=.p (.bin op c),args:=az } A σ=some (A',σ')):Gives P cx o a w A' σ':=by
 refine GX hi hkd hnt hd hrun fun vs rs he hs=>?_
 obtain⟨y1,zs,rfl,hy1,hz⟩:=AV hc;obtain⟨y2,zs,rfl,hy2,hz⟩:=AV hz;cases hz;obtain⟨p1,qs,rfl,hp1,hq⟩:=Ar he;obtain⟨p2,qs,rfl,hp2,hq⟩:=Ar hq;cases hq
 have fin:∀{p:PV},(eqGuard op t x y (a.eval x) (a.eval y)).run P w=.ok () w→(∃v,(Go.binOp op t (a.eval x) (a.eval y)).run P w=.ok v w∧Rep G.I w v p∧∀sz es,p≠.slice true sz es)→p.free=true→
   ∃v,(execOp a.eval o).run P w=.ok (.value v) w∧Bz G.I G.bl w v p∧∀tag,Eo G w tag v p:=by
  rintro p hg ⟨v,hr,hrep,hno⟩ hf
  exact⟨v,by simp[execOp,ho,hg,hr],.one (.inl hrep),fun _=>MH hno⟩
 simp only[Be] at hs
 split at hs
 case isFalse=>cases hs
 rename_i hty;obtain⟨p,hb,e⟩:=Ac.1 hs;cases e
 suffices h:(eqGuard op t x y (a.eval x) (a.eval y)).run P w=.ok () w∧∃v,(Go.binOp op t (a.eval x) (a.eval y)).run P w=.ok v w∧Rep G.I w v p∧(∀sz es,p≠.slice true sz es) by
  obtain⟨hg,v,hr,hrep,hno⟩:=h;have hfree:p.free=true:=by cases hrep<;>rfl
  obtain⟨v,h1,h2,h3⟩:=fin hg ⟨v,hr,hrep,hno⟩ hfree;exact⟨_,v,rfl,hfree,h1,h2,h3⟩
 cases p1 with
 |int k n=>
  cases p2 with
  |int k' m=>
   have e1:=(Bp hi hkd hy1 hp1 rfl).CF;have e2:=(Bp hi hkd hy2 hp2 rfl).CF;simp only[Rm] at hb;rw[e1,e2];refine⟨Ri ..,?_⟩
   split at hb
   ·split at hb
    ·rename_i k2 n2 hb';cases hb;exact⟨.int k2 n2,by rw[Uq,hb'];rfl,.int _ _,by simp⟩
    ·cases hb
   ·split at hb
    ·rename_i hk;subst hk;exact oU hb
    ·cases hb
  |_=>simp[Rm] at hb
 |str l=>
  cases p2 with
  |str l'=>
   obtain⟨s1,e1,rfl⟩:=(Bp hi hkd hy1 hp1 rfl).EU;obtain⟨s2,e2,rfl⟩:=(Bp hi hkd hy2 hp2 rfl).EU;simp only[Rm] at hb;rw[e1,e2];exact⟨Rh ..,oQ hb⟩
  |_=>simp[Rm] at hb
 |bool b=>
  cases p2 with
  |bool b'=>
   have e1:=(Bp hi hkd hy1 hp1 rfl).Ic;have e2:=(Bp hi hkd hy2 hp2 rfl).Ic;have htb:=hbt (by simpa [uL] using hty)
   simp only[Rm] at hb;rw[e1,e2];exact⟨Qj ..,oV htb hb⟩
  |_=>simp[Rm] at hb
 |func f fs cs=>
  cases p2 with
  |nilf=>
   obtain⟨vs,ws,e1,_⟩:=(Bp hi hkd hy1 hp1 rfl).Lh;have e2:=(Bp hi hkd hy2 hp2 rfl).Ti;obtain⟨ps,rs',va,htf⟩:=hft (by simpa [uL] using hty)
   rw[e1,e2];refine⟨Qi ..,?_⟩
   cases op<;>simp[Rm] at hb<;>subst hb
   ·exact⟨.bool false,binOp_eql (Mv htf ..) rfl,.bool _,by simp⟩
   ·exact⟨.bool true,binOp_neq (Mv htf ..) rfl,.bool _,by simp⟩
  |_=>simp[Rm] at hb
 |nilf=>
  cases p2 with
  |nilf=>
   have e1:=(Bp hi hkd hy1 hp1 rfl).Ti;have e2:=(Bp hi hkd hy2 hp2 rfl).Ti;obtain⟨ps,rs',va,htf⟩:=hft (by simpa [uL] using hty)
   rw[e1,e2];refine⟨Qh ..,?_⟩
   cases op<;>simp[Rm] at hb<;>subst hb
   ·exact⟨.bool true,binOp_eql (Mt htf) rfl,.bool _,by simp⟩
   ·exact⟨.bool false,binOp_neq (Mt htf) rfl,.bool _,by simp⟩
  |_=>simp[Rm] at hb
 |_=>simp[Rm] at hb
end
end Go.Abs

namespace Go.Abs
open Go.RowKit
section
variable{P:Program}{pur:FuncId→Bool}{call:Caller}{fi:FI}{cx:Cx}{G:Gh}{a:Act}{w:World}{A A':Frm}{σ σ':Sto}
theorem FJ{o:Oper}{c:Call}{b:Builtin}(ho:o.op=.call c)(hb:c.callee=.builtin b):
  ∃consts,(execOp a.eval o).run P w=(builtin b c.argTypes o.type consts (c.args.map a.eval)).run P w:=by
 simp only[execOp,ho,resolve,hb,invoke,Sem.run_bind,Sem.run_pure,Result.andThen_ok];exact⟨_,rfl⟩
theorem TL(hi:Inv cx G a w A σ)(hkd:∀t,cx.kd t=fi.kind t)(hnt:cx.nt=fi.nt){o:Oper}{k:PK}{xs:List Operand}{az:List CQ}(hd:BC fi o.dst=true)
  (hrun:BU pur call { dst:=o.dst,k:=.p k,args:=az } A σ=some (A',σ')) (hc:Ap fi xs=some az)
  {V:PV→PV→Option PV} (hk2:∀vs rs,Be k vs=some rs→∃p q r,vs=[p,q]∧V p q=some r∧rs=[some r])
  (hsem:∀x y p q r,xs=[x,y]→V p q=some r→(p.free=true→Bz G.I G.bl w (a.eval x) p)→(q.free=true→Bz G.I G.bl w (a.eval y) q)→
   r.free=true∧∃v,(execOp a.eval o).run P w=.ok (.value v) w∧Bz G.I G.bl w v r∧∀tag,Eo G w tag v r):Gives P cx o a w A' σ':=by
 refine GX hi hkd hnt hd hrun fun vs rs he hs=>?_
 obtain⟨p,q,r,rfl,hv,rfl⟩:=hk2 vs rs hs;obtain⟨x,x',y,y',rfl,rfl,h1,h2,h3,h4⟩:=Wv hc he;obtain⟨hf,v,h5,h6,h7⟩:=hsem x x' p q r rfl hv (fun hf=>Bp hi hkd h1 h3 hf) (fun hf=>Bp hi hkd h2 h4 hf)
 exact⟨r,v,rfl,hf,h5,h6,h7⟩
theorem gD(hi:Inv cx G a w A σ)(hkd:∀t,cx.kd t=fi.kind t)(hnt:cx.nt=fi.nt){o:Oper}{k:PK}{xs:List Operand}{az:List CQ}(hd:BC fi o.dst=true)
  (hrun:BU pur call { dst:=o.dst,k:=.p k,args:=az } A σ=some (A',σ')) (hc:Ap fi xs=some az)
  {V:PV→Option PV} (hk2:∀vs rs,Be k vs=some rs→∃p r,vs=[p]∧V p=some r∧rs=[some r])
  (hsem:∀x p r,xs=[x]→V p=some r→(p.free=true→Bz G.I G.bl w (a.eval x) p)→
   r.free=true∧∃v,(execOp a.eval o).run P w=.ok (.value v) w∧Bz G.I G.bl w v r∧∀tag,Eo G w tag v r):Gives P cx o a w A' σ':=by
 refine GX hi hkd hnt hd hrun fun vs rs he hs=>?_
 obtain⟨p,r,rfl,hv,rfl⟩:=hk2 vs rs hs;obtain⟨x,y,rfl,rfl,h1,h3⟩:=dO hc he;obtain⟨hf,v,h5,h6,h7⟩:=hsem x p r rfl hv (fun hf=>Bp hi hkd h1 h3 hf)
 exact⟨r,v,rfl,hf,h5,h6,h7⟩
theorem Qd{k:PK}{V:PV→PV→Option PV}(h2:∀p q,Be k [p,q]=(V p q).map fun v=>[some v])(h0:Be k []=none)(h1:∀p,Be k [p]=none)(h3:∀p q r l,Be k (p::q::r::l)=none):
  ∀vs rs,Be k vs=some rs→∃p q r,vs=[p,q]∧V p q=some r∧rs=[some r]:=by
 intro vs rs h
 match vs with
 |[]=>rw[h0] at h;cases h
 |[p]=>rw[h1] at h;cases h
 |[p,q]=>
  rw[h2] at h;obtain⟨r,hr,e⟩:=Ac.1 h;exact⟨p,q,r,rfl,hr,e.symm⟩
 |p::q::r::l=>rw[h3] at h;cases h
theorem YH{k:PK}{V:PV→Option PV}(h1:∀p,Be k [p]=(V p).map fun v=>[some v])(h0:Be k []=none)(h3:∀p q l,Be k (p::q::l)=none):
  ∀vs rs,Be k vs=some rs→∃p r,vs=[p]∧V p=some r∧rs=[some r]:=by
 intro vs rs h
 match vs with
 |[]=>rw[h0] at h;cases h
 |[p]=>
  rw[h1] at h;obtain⟨r,hr,e⟩:=Ac.1 h;exact⟨p,r,rfl,hr,e.symm⟩
 |p::q::l=>rw[h3] at h;cases h
theorem iT(hi:Inv cx G a w A σ)(hkd:∀t,cx.kd t=fi.kind t)(hnt:cx.nt=fi.nt){o:Oper}{c:Call}(ho:o.op=.call c)(hb:c.callee=.builtin .len){st:Bool}
  (ht:(st=true∧c.argTypes.toList.map P.underlying=[some .string])∨(st=false∧∃e,c.argTypes.toList.map P.underlying=[some (.slice e)]))
  {az:List CQ} (hc:Ap fi c.args.toList=some az) (hd:BC fi o.dst=true) (hrun:BU pur call { dst:=o.dst,k:=.p (.len st),args:=az } A σ=some (A',σ')):Gives P cx o a w A' σ':=by
 refine gD hi hkd hnt hd hrun hc (YH (V:=bQ st) (fun _=>rfl) rfl (fun _ _ _=>rfl)) fun x p r hx hv hp=>?_
 have hx':c.args=#[x]:=by apply Cj.1;simpa using hx
 obtain⟨consts,hr⟩:=FJ (P:=P) (w:=w) (a:=a) ho hb;rw[hx'] at hr
 have htt:∃t,c.argTypes=#[t]∧((st=true∧P.underlying t=some .string)∨(st=false∧∃e,P.underlying t=some (.slice e))):=by
  rcases ht with⟨h,ht⟩ | ⟨h,e,ht⟩<;>(
   cases hl:c.argTypes.toList with
   |nil=>rw[hl] at ht;simp at ht
   |cons t r=>cases r with
    |nil=>
     rw[hl] at ht;simp at ht;refine⟨t,by apply Cj.1;simpa using hl,?_⟩
     first | exact .inl ⟨h,ht⟩ | exact .inr ⟨h,e,ht⟩
    |cons _ _=>rw[hl] at ht;simp at ht)
 obtain⟨t,htt,hu⟩:=htt;clear ht;rw[htt] at hr;cases p with
 |str l=>
  obtain⟨s,e,rfl⟩:=(hp rfl).EU;simp only[bQ] at hv;rcases hu with⟨rfl,hu⟩ | ⟨rfl,_⟩
  ·simp at hv;subst hv;refine⟨rfl,.int .i64 s.data.toList.length,?_,.one (.inl (.int _ _)),fun _=>trivial⟩
   rw[hr,←Lib.size_eq];simp[builtin,Builtin.len_,e,underlying,hu,goInt]
  ·simp at hv
 |slice own sz es=>
  obtain⟨b,len,cap,cv,e,e1,_⟩:=(hp rfl).FB;simp only[bQ] at hv;rcases hu with⟨rfl,_⟩ | ⟨rfl,el,hu⟩
  ·simp at hv
  ·simp at hv;subst hv;refine⟨rfl,.int .i64 es.length,?_,.one (.inl (.int _ _)),fun _=>trivial⟩
   rw[hr];simp[builtin,Builtin.len_,e,underlying,hu,goInt,e1]
 |arr id gen off len sz=>
  obtain⟨b,base,n,cap,b',o',_,_,_,_,e⟩:=(hp rfl).Jn;simp only[bQ] at hv;rcases hu with⟨rfl,_⟩ | ⟨rfl,el,hu⟩
  ·simp at hv
  ·simp at hv;subst hv;refine⟨rfl,.int .i64 len,?_,.one (.inl (.int _ _)),fun _=>trivial⟩
   rw[hr];simp[builtin,Builtin.len_,e,underlying,hu,goInt]
 |empt=>
  obtain⟨ad,e⟩:=(hp rfl).Ju;simp only[bQ] at hv;rcases hu with⟨rfl,_⟩ | ⟨rfl,el,hu⟩
  ·simp at hv
  ·simp at hv;subst hv;refine⟨rfl,.int .i64 0,?_,.one (.inl (.int _ _)),fun _=>trivial⟩
   rw[hr];simp[builtin,Builtin.len_,e,underlying,hu,goInt]
 |nils=>
  have e:=(hp rfl).FK;simp only[bQ] at hv;rcases hu with⟨rfl,_⟩ | ⟨rfl,el,hu⟩
  ·simp at hv
  ·simp at hv;subst hv;refine⟨rfl,.int .i64 0,?_,.one (.inl (.int _ _)),fun _=>trivial⟩
   rw[hr];simp[builtin,Builtin.len_,e,underlying,hu,goInt]
 |_=>simp[bQ] at hv
theorem oF(hi:Inv cx G a w A σ)(hkd:∀t,cx.kd t=fi.kind t)(hnt:cx.nt=fi.nt){o:Oper}{c:Call}(ho:o.op=.call c)(hb:c.callee=.builtin .cap)
  (ht:∃e,c.argTypes.toList.map P.underlying=[some (.slice e)])
  {az:List CQ} (hc:Ap fi c.args.toList=some az) (hd:BC fi o.dst=true) (hrun:BU pur call { dst:=o.dst,k:=.p .cap0,args:=az } A σ=some (A',σ')):Gives P cx o a w A' σ':=by
 refine gD hi hkd hnt hd hrun hc (YH (V:=fun x=>match x with | .nils | .empt=>some (.int .i64 0) | _=>none) (fun p=>by cases p<;>rfl) rfl (fun _ _ _=>rfl)) fun x p r hx hv hp=>?_
 have hx':c.args=#[x]:=by apply Cj.1;simpa using hx
 obtain⟨consts,hr⟩:=FJ (P:=P) (w:=w) (a:=a) ho hb;rw[hx'] at hr;obtain⟨el,ht⟩:=ht
 have htt:∃t,c.argTypes=#[t]∧P.underlying t=some (.slice el):=by
  cases hl:c.argTypes.toList with
  |nil=>rw[hl] at ht;simp at ht
  |cons t r=>cases r with
   |nil=>
    rw[hl] at ht;simp at ht;exact⟨t,by apply Cj.1;simpa using hl,ht⟩
   |cons _ _=>rw[hl] at ht;simp at ht
 obtain⟨t,htt,hu⟩:=htt;rw[htt] at hr;cases p with
 |nils=>
  have e:=(hp rfl).FK;cases hv;refine⟨rfl,.int .i64 0,?_,.one (.inl (.int _ _)),fun _=>trivial⟩
  rw[hr];simp[builtin,Builtin.cap_,e,underlying,hu,goInt]
 |empt=>
  obtain⟨ad,e⟩:=(hp rfl).Ju;cases hv;refine⟨rfl,.int .i64 0,?_,.one (.inl (.int _ _)),fun _=>trivial⟩
  rw[hr];simp[builtin,Builtin.cap_,e,underlying,hu,goInt]
 |_=>simp at hv
theorem vC(hi:Inv cx G a w A σ)(hkd:∀t,cx.kd t=fi.kind t)(hnt:cx.nt=fi.nt){o:Oper}{c:Call}(ho:o.op=.call c)(hb:c.callee=.builtin .min)
  {az:List CQ} (hc:Ap fi c.args.toList=some az) (hd:BC fi o.dst=true) (hrun:BU pur call { dst:=o.dst,k:=.p .min,args:=az } A σ=some (A',σ')):Gives P cx o a w A' σ':=by
 refine TL hi hkd hnt hd hrun hc (Qd (V:=qU) (fun _ _=>rfl) rfl (fun _=>rfl) (fun _ _ _ _=>rfl)) fun x y p q r hx hv hp hq=>?_
 have hx':c.args=#[x,y]:=by apply Cj.1;simpa using hx
 obtain⟨consts,hr⟩:=FJ (P:=P) (w:=w) (a:=a) ho hb;rw[hx'] at hr;cases p with
 |int k n=>cases q with
  |int k' m=>
   simp only[qU] at hv;cases hv;have e1:=(hp rfl).CF;have e2:=(hq rfl).CF;exact⟨rfl,.int k (if m<n then m else n),by rw[hr];simp[builtin,Builtin.min_,Builtin.min2,e1,e2],.one (.inl (.int _ _)),fun _=>trivial⟩
  |_=>simp[qU] at hv
 |_=>simp[qU] at hv
theorem vD(hi:Inv cx G a w A σ)(hkd:∀t,cx.kd t=fi.kind t)(hnt:cx.nt=fi.nt){o:Oper}{c:Call}(ho:o.op=.call c)(hb:c.callee=.builtin .max)
  {az:List CQ} (hc:Ap fi c.args.toList=some az) (hd:BC fi o.dst=true) (hrun:BU pur call { dst:=o.dst,k:=.p .max,args:=az } A σ=some (A',σ')):Gives P cx o a w A' σ':=by
 refine TL hi hkd hnt hd hrun hc (Qd (V:=qW) (fun _ _=>rfl) rfl (fun _=>rfl) (fun _ _ _ _=>rfl)) fun x y p q r hx hv hp hq=>?_
 have hx':c.args=#[x,y]:=by apply Cj.1;simpa using hx
 obtain⟨consts,hr⟩:=FJ (P:=P) (w:=w) (a:=a) ho hb;rw[hx'] at hr;cases p with
 |int k n=>cases q with
  |int k' m=>
   simp only[qW] at hv;cases hv;have e1:=(hp rfl).CF;have e2:=(hq rfl).CF;exact⟨rfl,.int k (if n<m then m else n),by rw[hr];simp[builtin,Builtin.max_,Builtin.max2,e1,e2],.one (.inl (.int _ _)),fun _=>trivial⟩
  |_=>simp[qW] at hv
 |_=>simp[qW] at hv
theorem ol(hi:Inv cx G a w A σ)(hkd:∀t,cx.kd t=fi.kind t)(hnt:cx.nt=fi.nt){o:Oper}{t:TypeId}{x y:Operand}(ho:o.op=.index t x y)(ht:P.underlying t=some .string)
  {az:List CQ} (hc:Ap fi [x,y]=some az) (hd:BC fi o.dst=true) (hrun:BU pur call { dst:=o.dst,k:=.p .sidx,args:=az } A σ=some (A',σ')):Gives P cx o a w A' σ':=by
 refine TL hi hkd hnt hd hrun hc (Qd (V:=VJ) (fun _ _=>rfl) rfl (fun _=>rfl) (fun _ _ _ _=>rfl)) fun x' y' p q r hx hv hp hq=>?_
 cases hx;cases p with
 |str l=>cases q with
  |int k i=>
   obtain⟨s,e1,rfl⟩:=(hp rfl).EU;have e2:=(hq rfl).CF;simp only[VJ] at hv
   split at hv
   ·rename_i h0;obtain⟨b,hb,rfl⟩:=Ac.1 hv;refine⟨rfl,.int .u8 b.toNat,?_,.one (.inl (.int _ _)),fun _=>trivial⟩
    have hlt:=(Ad.1 hb).1;have hsz:=Lib.size_eq s;have hlt':i.toNat<s.size:=by omega
    have hget:s[i.toNat]?=some b:=by
     rw[getElem?_pos s i.toNat hlt']
     have:=(Ad.1 hb).2;rw[←this];rfl
    simp[execOp,ho,Instr.index,e1,e2,asIntOf,underlying,ht,h0,hget]
   ·cases hv
  |_=>simp[VJ] at hv
 |_=>simp[VJ] at hv
end
end Go.Abs

namespace Go.Abs
open Go.RowKit
section
variable{P:Program}{pur:FuncId→Bool}{call:Caller}{fi:FI}{cx:Cx}{G:Gh}{a:Act}{w:World}{A A':Frm}{σ σ':Sto}
theorem IK.AwH{bl:Bl}{v:Value}{p:PV}(h:IK bl v p):p.flat=false:=by cases h<;>rfl
theorem IK.Te{bl:Bl}{v:Value}{p:PV}(h:IK bl v p):p.JG=false:=by cases h<;>rfl
theorem Fh(b off n:Nat):Addr.add ⟨b,off,none⟩ n=⟨b,off+n,none⟩:=by
 unfold Addr.add;split
 ·rename_i h;simp[h]
 ·rfl
theorem Bz.flat{I:Imm}{bl:Bl}{v:Value}{p:PV}(h:Bz I bl w v p)(hf:p.flat=true):Rep I w v p:=by
 cases h with
 |one h=>
  rcases h with h | h
  ·exact h
  ·rw[h.AwH] at hf;cases hf
 |@func f fs cs first cap h1 h2 hf' hc=>
  simp only[PV.flat,Ai,Av] at hf;refine .func h1 h2 (fun i p hp=>?_) (fun i p hp=>?_)
  ·rcases hf' i p hp with h | h
   ·exact h
   ·have:=hf.1 _ (Au hp);rw[h.Te] at this;cases this
  ·rcases hc i p hp with h | h
   ·exact h
   ·have:=hf.2 _ (Au hp);rw[h.Te] at this;cases this
 |tuple h hr=>
  simp only[PV.flat,Av] at hf;refine .tuple h fun i p hp=>?_
  rcases hr i p hp with h | h
  ·exact h
  ·have:=hf _ (Au hp);rw[h.Te] at this;cases this
 |aggr _ _=>cases hf
theorem Bz.AzR{I:Imm}{bl:Bl}{v:Value}{p:PV}(h:Bz I bl w v p)(hf:(p.flat||p.Gi)=true):JD I bl w v p:=by
 rcases Bool.or_eq_true_iff.1 hf with hf | hf
 ·exact .inl (h.flat hf)
 ·cases h with
  |one h=>exact h
  |func _ _ _ _=>cases hf
  |tuple _ _=>cases hf
  |aggr _ _=>cases hf
theorem Rk{p:PV}(h:(p.flat||p.Gi)=true):p.free=true:=by
 cases p<;>first | rfl | simp[PV.flat,PV.Gi] at h
theorem JO{x:Value}{k:IntKind}{i:Int}{y:Nat}{c:BoundsCode}(hx:x=.int k i)(h0:0≤i)(h1:i≤y):(Instr.sliceBound x y c).run P w=.ok i.toNat w:=by
 subst hx;simp[Instr.sliceBound,asIntOf,h0,h1]
theorem J5{isSlice:Bool}{n cap:Nat}(hcap:n≤cap){lo hi:Option Operand}{bs:List PV}{l h:Nat}(hb:PN lo.isSome hi.isSome n bs=some (l,h))
  (hrep:∀(i:Nat) (x:Operand) (p:PV),(lo.toList++hi.toList)[i]?=some x→bs[i]?=some p→p.free=true→Bz G.I G.bl w (a.eval x) p) :
  (Instr.sliceBounds isSlice n cap (lo.map a.eval) (hi.map a.eval) none).run P w=.ok (l,h,cap) w∧l≤h∧h≤n:=by
 unfold PN at hb
 split at hb
 ·rename_i k1 l' k2 h' e1 e2;obtain⟨x,rfl⟩:=Dt.1 e1;obtain⟨y,rfl⟩:=Dt.1 e2
  split at hb
  ·rename_i hc;cases hb;obtain⟨c1,c2,c3⟩:=hc;have r1:=(hrep 0 x (.int k1 l') rfl rfl rfl).CF;have r2:=(hrep 1 y (.int k2 h') rfl rfl rfl).CF;refine⟨?_,by omega,by omega⟩
   simp only[Instr.sliceBounds,AO,Sem.run_bind,Sem.run_pure,Result.andThen_ok];rw[JO r2 (by omega) (by omega),Result.andThen_ok,JO r1 c1 (by omega)]
   rfl
  ·cases hb
 ·rename_i k1 l' e1 e2;obtain⟨x,rfl⟩:=Dt.1 e1;cases hi with
  |some y=>simp at e2
  |none=>
   split at hb
   ·rename_i hc;cases hb;obtain⟨c1,c2⟩:=hc;have r1:=(hrep 0 x (.int k1 l') rfl rfl rfl).CF;refine⟨?_,by omega,by omega⟩
    simp only[Instr.sliceBounds,AO,Option.map_none,Sem.run_bind,Sem.run_pure,Result.andThen_ok];rw[JO r1 c1 (by omega)]
    rfl
   ·cases hb
 ·rename_i k1 h' e1 e2;obtain⟨y,rfl⟩:=Dt.1 e2;cases lo with
  |some y=>simp at e1
  |none=>
   split at hb
   ·rename_i hc;cases hb;obtain⟨c1,c2⟩:=hc;have r1:=(hrep 0 y (.int k1 h') rfl rfl rfl).CF;refine⟨?_,by omega,by omega⟩
    simp only[Instr.sliceBounds,AO,Option.map_none,Sem.run_bind,Sem.run_pure,Result.andThen_ok];rw[JO r1 c1 (by omega)]
    rfl
   ·cases hb
 ·rename_i e1 e2;cases hb;cases lo with
  |some y=>simp at e1
  |none=>cases hi with
   |some y=>simp at e2
   |none=>exact⟨rfl,by omega,by omega⟩
 ·cases hb
theorem TK(hi:Inv cx G a w A σ)(hkd:∀t,cx.kd t=fi.kind t)(hnt:cx.nt=fi.nt){o:Oper}{k:PK}{xs:List Operand}{az:List CQ}(hd:BC fi o.dst=true)
  (hrun:BU pur call { dst:=o.dst,k:=.p k,args:=az } A σ=some (A',σ')) (hc:Ap fi xs=some az)
  (hsem:∀vs rs,Be k vs=some rs→xs.length=vs.length→(∀(i:Nat) (x:Operand) (p:PV),xs[i]?=some x→vs[i]?=some p→p.free=true→Bz G.I G.bl w (a.eval x) p)→
   ∃r v,rs=[some r]∧r.free=true∧(execOp a.eval o).run P w=.ok (.value v) w∧Bz G.I G.bl w v r∧∀tag,Eo G w tag v r):Gives P cx o a w A' σ':=by
 refine GX hi hkd hnt hd hrun fun vs rs he hs=>?_
 have key:∀{xs:List Operand} {az:List CQ},Ap fi xs=some az→∀{vs:List PV},BS A az=some vs→
   xs.length=vs.length∧∀(i:Nat) (x:Operand) (p:PV),xs[i]?=some x→vs[i]?=some p→p.free=true→Bz G.I G.bl w (a.eval x) p:=by
  intro xs
  induction xs with
  |nil=>intro az h vs h';cases h;cases h';exact⟨rfl,fun i x p h=>by simp at h⟩
  |cons x xs ih=>
   intro az h vs h';obtain⟨y,zs,rfl,h1,h2⟩:=AV h;obtain⟨p,qs,rfl,h3,h4⟩:=Ar h';obtain⟨hl,hr⟩:=ih h2 h4;refine⟨by simp[hl],fun i x' p' hx hp hf=>?_⟩
   cases i with
   |zero=>simp at hx hp;subst hx hp;exact Bp hi hkd h1 h3 hf
   |succ i=>exact hr i x' p' (by simpa using hx) (by simpa using hp) hf
 obtain⟨hl,hr⟩:=key hc he;obtain⟨r,v,h1,h2⟩:=hsem vs rs hs hl hr;exact⟨r,v,h1,h2⟩
theorem vg(hi:Inv cx G a w A σ)(hkd:∀t,cx.kd t=fi.kind t)(hnt:cx.nt=fi.nt){o:Oper}{t:TypeId}{x:Operand}{lo hi':Option Operand}(ho:o.op=.slice t x lo hi' none)
  (ht:P.underlying t=some .string)
  {az:List CQ} (hc:Ap fi (x::(lo.toList++hi'.toList))=some az) (hd:BC fi o.dst=true) (hrun:BU pur call { dst:=o.dst,k:=.p (.ssl lo.isSome hi'.isSome),args:=az } A σ=some (A',σ')):Gives P cx o a w A' σ':=by
 refine TK hi hkd hnt hd hrun hc fun vs rs hs hl hrep=>?_
 match vs,hl with
 |p::bs,_=>
  cases p with
  |str l=>
   obtain⟨s,e,rfl⟩:=(hrep 0 x _ rfl rfl rfl).EU;simp only[Be] at hs;obtain⟨⟨l,h⟩,hb,e'⟩:=Ac.1 hs;cases e';rw[←Lib.size_eq] at hb;obtain⟨hr,h1,h2⟩:=J5 (P:=P) (G:=G) (a:=a) (w:=w) (isSlice:=false) (cap:=s.size) (Ag _) hb (fun i x p hx hp hf=>hrep (i+1) x p (by simpa using hx) (by simpa using hp) hf)
   refine⟨_,.string (s.extract l h),rfl,rfl,?_,?_,fun _=>trivial⟩
   ·simp[execOp,ho,Instr.sliceAt,Instr.slice,underlying,ht,e,hr]
   ·rw[←Lib.extract_data];exact .one (.inl (.str _))
  |_=>simp[Be] at hs
 |[],hl=>simp at hl
theorem uZ(hi:Inv cx G a w A σ)(hkd:∀t,cx.kd t=fi.kind t)(hnt:cx.nt=fi.nt){o:Oper}{t e:TypeId}{x:Operand}{lo hi':Option Operand}(ho:o.op=.slice t x lo hi' none)
  (ht:P.underlying t=some (.slice e)) {size:Nat} {ag:Bool} (hsz:Cv P e=some (size,ag))
  {az:List CQ} (hc:Ap fi (x::(lo.toList++hi'.toList))=some az) (hd:BC fi o.dst=true) (hrun:BU pur call { dst:=o.dst,k:=.p (.vsl size lo.isSome hi'.isSome),args:=az } A σ=some (A',σ')):Gives P cx o a w A' σ':=by
 refine TK hi hkd hnt hd hrun hc fun vs rs hs hl hrep=>?_
 match vs,hl with
 |p::bs,_=>
  cases p with
  |slice own sz es=>
   obtain⟨ad,len,cap,cv,ev,e1,e2,e3,e4,e5,e6,e7⟩:=(hrep 0 x _ rfl rfl rfl).FB;simp only[Be] at hs
   split at hs
   ·rename_i hsz';subst hsz';obtain⟨⟨l,h⟩,hb,e'⟩:=Ac.1 hs;cases e';rw[←e1] at hb;obtain⟨hr,h1,h2⟩:=J5 (P:=P) (G:=G) (a:=a) (w:=w) (isSlice:=true) (cap:=cap) e2 hb (fun i x p hx hp hf=>hrep (i+1) x p (by simpa using hx) (by simpa using hp) hf)
    have hsize:(sizeOf e).run P w=.ok sz w:=by
     unfold Cv at hsz
     split at hsz
     ·rename_i i d hi hd;cases hsz;simp[sizeOf,typeInfo,hi]
     ·cases hsz
    have hget:∀i el,((es.drop l).take (h - l))[i]?=some el→i<h - l∧es[l+i]?=some el:=by
     intro i el hel;rw[Cb] at hel
     split at hel
     ·rename_i hlt;rw[Cw] at hel;exact⟨hlt,hel⟩
     ·cases hel
    refine⟨_,.slice (if cap=l then some ad else(some ad).map (·.add (l * sz))) (h - l) (cap - l),rfl,rfl,?_,?_,fun _=>trivial⟩
    ·simp[execOp,ho,Instr.sliceAt,Instr.slice,underlying,ht,ev,hr,hsize]
    ·refine .one (.inl ?_)
     have hlen:h - l=((es.drop l).take (h - l)).length:=by
      rw[Ba,AU];omega
     by_cases hcl:cap=l
     ·rw[if_pos hcl];have h0:h - l=0:=by omega
      have hemp:(es.drop l).take (h - l)=[]:=by rw[h0];simp
      rw[hemp] at hlen ⊢;exact .slice (fun i j=>cv (l+i) j) hlen (by omega) (fun hne=>absurd rfl hne) (fun i e h=>by simp at h) (fun i e j p h=>by simp at h) (fun i e j p h=>by simp at h) (fun i e j p h=>by simp at h)
     ·rw[if_neg hcl];simp only[AO]
      have hadd:es≠[]→ad.add (l * sz)=⟨ad.block,ad.off+l * sz,none⟩:=by
       intro hne;have hsp:=e3 hne;unfold Addr.add;split
       ·rename_i h0;rw[h0];cases ad;dsimp only at hsp;rw[hsp];rfl
       ·rfl
      have hblk:(ad.add (l * sz)).block=ad.block∧(ad.add (l * sz)).off=ad.off+l * sz:=by
       unfold Addr.add;split
       ·rename_i h0;simp[h0]
       ·exact⟨rfl,rfl⟩
      refine .slice (fun i j=>cv (l+i) j) hlen (by omega) (fun hne=>?_) ?_ ?_ ?_ ?_
      ·have:es≠[]:=by intro h0;rw[h0] at hne;simp at hne
       rw[hadd this]
      ·intro i el hel;exact e4 _ _ (hget i el hel).2
      ·intro i el j q hel hq;rw[hblk.1,hblk.2];have:=e5 _ _ j q (hget i el hel).2 hq;rw[Ce] at this;rw[show ad.off+l * sz+i * sz+j=ad.off+(l * sz+i * sz)+j from by omega];exact this
      ·intro i el j q hel hq;rw[hblk.1,hblk.2];have:=e6 _ _ j q (hget i el hel).2 hq;rw[Ce] at this;rw[show ad.off+l * sz+i * sz+j=ad.off+(l * sz+i * sz)+j from by omega];exact this
      ·intro i el j q hel hq;exact e7 _ _ j q (hget i el hel).2 hq
   ·cases hs
  |arr id gen off len sz=>
   obtain⟨b,base,n,cap,b',o',e1,e2,e3,e4,ev⟩:=(hrep 0 x _ rfl rfl rfl).Jn;simp only[Be] at hs
   split at hs
   ·rename_i hsz';subst hsz';obtain⟨⟨l,h⟩,hb,e'⟩:=Ac.1 hs;cases e';obtain⟨hr,h1,h2⟩:=J5 (P:=P) (G:=G) (a:=a) (w:=w) (isSlice:=true) (cap:=cap) e2 hb (fun i x p hx hp hf=>hrep (i+1) x p (by simpa using hx) (by simpa using hp) hf)
    have hsize:(sizeOf e).run P w=.ok sz w:=by
     unfold Cv at hsz
     split at hsz
     ·rename_i i d hi hd;cases hsz;simp[sizeOf,typeInfo,hi]
     ·cases hsz
    by_cases hcl:cap=l
    ·subst hcl;refine⟨_,.slice (some ⟨b',o',none⟩) (h - cap) (cap - cap),rfl,rfl,?_,?_,fun _=>trivial⟩
     ·simp[execOp,ho,Instr.sliceAt,Instr.slice,underlying,ht,ev,hr,hsize]
     ·refine .one (.inr (.arr e1 (by omega) ?_ (by omega)))
      show base+(off+cap+(cap - cap)) * sz≤n;rw[show off+cap+(cap - cap)=off+cap by omega];exact e3
    ·refine⟨_,.slice (some ⟨b',o'+l * sz,none⟩) (h - l) (cap - l),rfl,rfl,?_,?_,fun _=>trivial⟩
     ·simp[execOp,ho,Instr.sliceAt,Instr.slice,underlying,ht,ev,hr,hsize,hcl,Fh]
     ·refine .one (.inr (.arr e1 (by omega) ?_ (fun hc=>?_)))
      ·show base+(off+l+(cap - l)) * sz≤n;rw[show off+l+(cap - l)=off+cap by omega];exact e3
      ·obtain⟨rfl,rfl⟩:=e4 (by omega)
       refine⟨rfl,?_⟩
       show base+off * sz+l * sz=base+(off+l) * sz;rw[Ce];omega
   ·cases hs
  |nils=>
   have ev:=(hrep 0 x _ rfl rfl rfl).FK;simp only[Be] at hs;obtain⟨⟨l,h⟩,hb,e'⟩:=Ac.1 hs;cases e';obtain⟨hr,h1,h2⟩:=J5 (P:=P) (G:=G) (a:=a) (w:=w) (isSlice:=true) (cap:=0) (Ag _) hb (fun i x p hx hp hf=>hrep (i+1) x p (by simpa using hx) (by simpa using hp) hf)
   have hsize:(sizeOf e).run P w=.ok size w:=by
    unfold Cv at hsz
    split at hsz
    ·rename_i i d hi hd;cases hsz;simp[sizeOf,typeInfo,hi]
    ·cases hsz
   obtain⟨rfl,rfl⟩:l=0∧h=0:=by omega
   exact⟨_,.slice none 0 0,rfl,rfl,by simp[execOp,ho,Instr.sliceAt,Instr.slice,underlying,ht,ev,hr,hsize],.one (.inl .nils),fun _=>trivial⟩
  |empt=>
   obtain⟨ad,ev⟩:=(hrep 0 x _ rfl rfl rfl).Ju;simp only[Be] at hs;obtain⟨⟨l,h⟩,hb,e'⟩:=Ac.1 hs;cases e';obtain⟨hr,h1,h2⟩:=J5 (P:=P) (G:=G) (a:=a) (w:=w) (isSlice:=true) (cap:=0) (Ag _) hb (fun i x p hx hp hf=>hrep (i+1) x p (by simpa using hx) (by simpa using hp) hf)
   have hsize:(sizeOf e).run P w=.ok size w:=by
    unfold Cv at hsz
    split at hsz
    ·rename_i i d hi hd;cases hsz;simp[sizeOf,typeInfo,hi]
    ·cases hsz
   obtain⟨rfl,rfl⟩:l=0∧h=0:=by omega
   exact⟨_,.slice (some ad) 0 0,rfl,rfl,by simp[execOp,ho,Instr.sliceAt,Instr.slice,underlying,ht,ev,hr,hsize],.one (.inl .empt),fun _=>trivial⟩
  |_=>simp[Be] at hs
 |[],hl=>simp at hl
theorem oD(hi:Inv cx G a w A σ)(hkd:∀t,cx.kd t=fi.kind t)(hnt:cx.nt=fi.nt){o:Oper}{t e:TypeId}{x:Operand}{k1 k2:IntKind}(ho:o.op=.slice t x none (some (.const (.int k1 0))) (some (.const (.int k2 0))))
  (ht:P.underlying t=some (.slice e)) {size:Nat} {ag:Bool} (hsz:Cv P e=some (size,ag))
  {az:List CQ} (hc:Ap fi [x]=some az) (hd:BC fi o.dst=true) (hrun:BU pur call { dst:=o.dst,k:=.p .gQ,args:=az } A σ=some (A',σ')):Gives P cx o a w A' σ':=by
 refine TK hi hkd hnt hd hrun hc fun vs rs hs hl hrep=>?_
 have hsize:(sizeOf e).run P w=.ok size w:=by
  unfold Cv at hsz
  split at hsz
  ·rename_i i d hi hd;cases hsz;simp[sizeOf,typeInfo,hi]
  ·cases hsz
 have hbd:∀len cap,(Instr.sliceBounds true len cap none (some (.int k1 0)) (some (.int k2 0))).run P w=.ok (0,0,0) w:=by
  intro len cap;simp only[Instr.sliceBounds,Sem.run_bind,Sem.run_pure,Result.andThen_ok];rw[JO rfl (by omega) (by omega),Result.andThen_ok,JO rfl (by omega) (by omega)]
  rfl
 have hgen:∀(ad:Option Addr) (len cap:Nat),a.eval x=.slice ad len cap→(execOp a.eval o).run P w=.ok (.value (.slice ad 0 0)) w:=by
  intro ad len cap ev;have h1:a.eval (.const (.int k1 0))=.int k1 0:=rfl;have h2:a.eval (.const (.int k2 0))=.int k2 0:=rfl;simp[execOp,ho,Instr.sliceAt,Instr.slice,underlying,ht,ev,hbd,hsize,h1,h2]
 match vs,hl with
 |[p],_=>
  cases p with
  |nils=>
   have ev:=(hrep 0 x _ rfl rfl rfl).FK;cases hs;exact⟨_,_,rfl,rfl,hgen _ _ _ ev,.one (.inl .nils),fun _=>trivial⟩
  |slice own sz es=>
   obtain⟨ad,len,cap,cv,ev,_⟩:=(hrep 0 x _ rfl rfl rfl).FB;cases hs;exact⟨_,_,rfl,rfl,hgen _ _ _ ev,.one (.inl .empt),fun _=>trivial⟩
  |arr id gen off len sz=>
   obtain⟨b,base,n,cap,b',o',_,_,_,_,ev⟩:=(hrep 0 x _ rfl rfl rfl).Jn;cases hs;exact⟨_,_,rfl,rfl,hgen _ _ _ ev,.one (.inl .empt),fun _=>trivial⟩
  |empt=>
   obtain⟨ad,ev⟩:=(hrep 0 x _ rfl rfl rfl).Ju;cases hs;exact⟨_,_,rfl,rfl,hgen _ _ _ ev,.one (.inl .empt),fun _=>trivial⟩
  |_=>simp[Be] at hs
 |[],hl=>simp at hl
 |_::_::_,hl=>simp at hl
end
end Go.Abs

namespace Go.Abs
open Go.RowKit
section
variable{P:Program}{pur:FuncId→Bool}{call:Caller}{fi:FI}{cx:Cx}{G:Gh}{a:Act}{w:World}{A A':Frm}{σ σ':Sto}
theorem JD.Ae{I:Imm}{bl:Bl}{v:Value}{p:PV}(h:JD I bl w v p):JD I bl w v p.Ae:=by
 rcases h with h | h
 ·exact .inl h.Ae
 ·exact .inr (by rw[h.Ae];exact h)
theorem N9(xs:Array Operand)(i:Nat)(x:Operand)(h:xs.toList[i]?=some x)(f:Operand→Value):(xs.map f).getD i undef=f x:=by
 rw[Aj,Array.getElem?_map]
 rw[Ay] at h;rw[h];rfl
theorem vz(hi:Inv cx G a w A σ)(hkd:∀t,cx.kd t=fi.kind t)(hnt:cx.nt=fi.nt){o:Oper}{f:FuncId}{first cap:Array Operand}(ho:o.op=.makeFunc (.func f) first cap)
  {az:List CQ} (hc:Ap fi (first.toList++cap.toList)=some az) (hd:BC fi o.dst=true) (hrun:BU pur call { dst:=o.dst,k:=.p (.mkf f first.size),args:=az } A σ=some (A',σ')):Gives P cx o a w A' σ':=by
 refine TK hi hkd hnt hd hrun hc fun vs rs hs hl hrep=>?_
 simp only[Be] at hs
 split at hs
 ·rename_i hall;cases hs;rw[Av] at hall;have hlen:first.size+cap.size=vs.length:=by simpa using hl
  have key:∀(i:Nat) (x:Operand) (p:PV),(first.toList++cap.toList)[i]?=some x→vs[i]?=some p→JD G.I G.bl w (a.eval x) p.Ae:=by
   intro i x p hx hp;have hm:=hall p (Au hp);exact((hrep i x p hx hp (Rk hm)).AzR hm).Ae
  refine⟨_,.func (.func f) (first.map a.eval) (cap.map a.eval),rfl,rfl,by simp[execOp,ho,Instr.makeFunc],?_,fun _=>trivial⟩
  refine .func (by simp;omega) (by simp;omega) (fun i p hp=>?_) (fun i p hp=>?_)
  ·rw[Cb] at hp
   split at hp
   ·rename_i hlt;rw[Am] at hp;obtain⟨q,hq,rfl⟩:=Ac.1 hp;have hx:first.toList[i]?=some first[i]:=by rw[Ay];exact AJ hlt
    rw[N9 _ _ _ hx];exact key i _ q (by rw[Ak (by simpa using hlt)];exact hx) hq
   ·cases hp
  ·rw[Cw,Am] at hp;obtain⟨q,hq,rfl⟩:=Ac.1 hp;have hlt:i<cap.size:=by have:=(Ad.1 hq).1;omega
   have hx:cap.toList[i]?=some cap[i]:=by rw[Ay];exact AJ hlt
   rw[N9 _ _ _ hx];exact key (first.size+i) _ q (by rw[Ao (by simp)];simp at hx ⊢) hq
 ·cases hs
theorem run_sizeOf{e:TypeId}{n:Nat}{ag:Bool}(h:Cv P e=some (n,ag)):(sizeOf e).run P w=.ok n w:=by
 unfold Cv at h
 split at h
 ·rename_i i d hi hd;cases h;simp[sizeOf,typeInfo,hi]
 ·cases h
theorem Jd{e:TypeId}{n:Nat}{ag:Bool}(h:Cv P e=some (n,ag)):(isAgg e).run P w=.ok ag w:=by
 unfold Cv at h
 split at h
 ·rename_i i d hi hd;cases h;cases d<;>simp[isAgg,underlying,hd,r9]
 ·cases h
theorem vK(hi:Inv cx G a w A σ)(hkd:∀t,cx.kd t=fi.kind t)(hnt:cx.nt=fi.nt){o:Oper}{t e:TypeId}{x y:Operand}(ho:o.op=.indexAddr t x y)(ht:P.underlying t=some (.slice e))
  {size:Nat} {ag:Bool} (hsz:Cv P e=some (size,ag))
  {az:List CQ} (hc:Ap fi [x,y]=some az) (hd:BC fi o.dst=true) (hrun:BU pur call { dst:=o.dst,k:=.p (.idx size),args:=az } A σ=some (A',σ')):Gives P cx o a w A' σ':=by
 refine TL hi hkd hnt hd hrun hc (Qd (V:=cK size) (fun _ _=>rfl) rfl (fun _=>rfl) (fun _ _ _ _=>rfl)) fun x' y' p q r hx hv hp hq=>?_
 cases hx;cases p with
 |slice own sz es=>cases q with
  |int k i=>
   obtain⟨ad,len,cap,cv,ev,e1,e2,e3,e4,e5,e6,e7⟩:=(hp rfl).FB;have e':=(hq rfl).CF;simp only[cK] at hv
   split at hv
   ·rename_i hc';obtain⟨rfl,h0⟩:=hc';obtain⟨el,hel,rfl⟩:=Ac.1 hv;have hlt:=(Ad.1 hel).1;have hne:es≠[]:=by intro h;subst h;simp at hlt
    have hsp:=e3 hne;have had:ad=⟨ad.block,ad.off,none⟩:=by cases ad;dsimp only at hsp;rw[hsp]
    refine⟨rfl,.pointer (some ⟨ad.block,ad.off+i.toNat * sz,none⟩),?_,?_,fun _=>trivial⟩
    ·have hb:0≤i∧i<(len:Int):=⟨h0,by omega⟩
     have hs':=run_sizeOf (P:=P) (w:=w) hsz;rw[had] at ev;have:Addr.add ⟨ad.block,ad.off,none⟩ (i.toNat * sz)=⟨ad.block,ad.off+i.toNat * sz,none⟩:=Fh ..;simp[execOp,ho,Instr.indexAt,ev,e',asIntOf,underlying,ht,hb,hs',this]
    ·exact .one (.inl (.vptr (fun j=>cv i.toNat j) (fun j p hp=>e5 _ _ _ _ hel hp) (fun j p hp=>e6 _ _ _ _ hel hp) (fun j p hp=>e7 _ _ _ _ hel hp)))
   ·cases hv
  |_=>simp[cK] at hv
 |arr id gen off len sz=>cases q with
  |int k i=>
   obtain⟨b,base,n,cap,b',o',e1,e2,e3,e4,ev⟩:=(hp rfl).Jn;have e':=(hq rfl).CF;simp only[cK] at hv
   split at hv
   ·rename_i hc';obtain⟨rfl,h0,h1⟩:=hc';cases hv;obtain⟨rfl,rfl⟩:=e4 (by omega)
    have hb:0≤i∧i<(len:Int):=⟨h0,h1⟩;have hs':=run_sizeOf (P:=P) (w:=w) hsz;refine⟨rfl,.pointer (some ⟨b',base+(off+i.toNat) * sz+0,none⟩),?_,.one (.inr (.aptr e1)),fun _=>trivial⟩
    have:base+(off+i.toNat) * sz+0=base+off * sz+i.toNat * sz:=by rw[Ce];omega
    rw[this];simp[execOp,ho,Instr.indexAt,ev,e',asIntOf,underlying,ht,hb,hs',Fh]
   ·cases hv
  |_=>simp[cK] at hv
 |_=>simp[cK] at hv
theorem Na{v x:PV}{off n:Nat}{ag:Bool}(h:sub v off n ag=some x):∀(j:Nat) (p:PV),x.cells[j]?=some p→v.cells[off+j]?=some p:=by
 intro j p hp;unfold sub at h;cases ag with
 |true=>
  dsimp only at h;cases v with
  |agg cs=>
   dsimp only at h
   split at h
   ·cases h;simp only[PV.cells] at hp ⊢;rw[Cb] at hp
    split at hp
    ·rw[Cw] at hp;exact hp
    ·cases hp
   ·cases h
  |_=>cases h
 |false=>
  dsimp only at h
  split at h
  ·rename_i y hy
   split at h
   ·cases h
   ·rename_i hag;cases h
    have:x.cells=[x]:=by
     cases x with
     |agg cs=>exact absurd rfl hag
     |aggr cs=>exact absurd rfl hag
     |_=>rfl
    rw[this] at hp;cases j with
    |zero=>simp at hp;subst hp;exact hy
    |succ j=>simp at hp
  ·cases h
theorem Jp{s:TypeId}{fs:Array Field}{f:Nat}{fl:Field}(hs:P.underlying s=some (.struct fs))(hf:fs[f]?=some fl){n:Nat}{ag:Bool}(hn:Cv P fl.type=some (n,ag))(hn0:n≠0)(b off:Nat):
  (Instr.fieldAt s (.pointer (some ⟨b,off,none⟩)) f).run P w=.ok (.pointer (some ⟨b,off+fl.offset,none⟩)) w:=by
 simp[Instr.fieldAt,underlying,hs,hf,Instr.sureAddr,fieldPlace,run_sizeOf hn,hn0,Fh]
theorem AzK(hi:Inv cx G a w A σ)(hkd:∀t,cx.kd t=fi.kind t)(hnt:cx.nt=fi.nt){o:Oper}{t:TypeId}{x:Operand}{f:Nat}(ho:o.op=.fieldAddr t x f)
  {fs:Array Field} {fl:Field} (hs':P.underlying t=some (.struct fs)) (hf:fs[f]?=some fl) {n:Nat} {ag:Bool} (hn:Cv P fl.type=some (n,ag)) (hn0:n≠0)
  (hnl:∀p,∀d off,p=PV.lref d off→∀y,F4 fi x=some y→BS A [y]≠some [p])
  {az:List CQ} (hc:Ap fi [x]=some az) (hd:BC fi o.dst=true) (hrun:BU pur call { dst:=o.dst,k:=.p (.fa fl.offset n ag),args:=az } A σ=some (A',σ')):Gives P cx o a w A' σ':=by
 refine GX hi hkd hnt hd hrun fun vs rs he hs=>?_
 obtain⟨p,r,rfl,hv,rfl⟩:=YH (V:=faV fl.offset n ag) (k:=.fa fl.offset n ag) (fun _=>rfl) rfl (fun _ _ _=>rfl) vs rs hs
 obtain⟨x',y,e,rfl,hy,hp⟩:=dO hc he;cases e;cases p with
 |vptr v=>
  obtain⟨b,off,cv,ev,h1,h2,h3⟩:=(Bp hi hkd hy hp rfl).JV;simp only[faV] at hv;obtain⟨u,hu,rfl⟩:=Ac.1 hv;have hsc:=Na hu;refine⟨_,.pointer (some ⟨b,off+fl.offset,none⟩),rfl,rfl,by simp[execOp,ho,ev,Jp hs' hf hn hn0],?_,fun _=>trivial⟩
  refine .one (.inl (.vptr (fun j=>cv (fl.offset+j)) (fun j q hq=>?_) (fun j q hq=>?_) (fun j q hq=>?_)))
  ·have:=h1 _ _ (hsc j q hq);rw[←Dq] at this;exact this
  ·have:=h2 _ _ (hsc j q hq);rw[←Dq] at this;exact this
  ·exact h3 _ _ (hsc j q hq)
 |ref id off=>
  obtain⟨b,h1,ev⟩:=(Bp hi hkd hy hp rfl).Jm;simp only[faV] at hv;cases hv;exact⟨_,.pointer (some ⟨b,off+fl.offset,none⟩),rfl,rfl,by simp[execOp,ho,ev,Jp hs' hf hn hn0],.one (.inr (.ref h1)),fun _=>trivial⟩
 |aptr id gen size i off=>
  obtain⟨b,base,n',h1,ev⟩:=(Bp hi hkd hy hp rfl).Km;simp only[faV] at hv;cases hv;exact⟨_,.pointer (some ⟨b,base+i * size+(off+fl.offset),none⟩),rfl,rfl,by simp[execOp,ho,ev,Jp hs' hf hn hn0,Dq],.one (.inr (.aptr h1)),fun _=>trivial⟩
 |lref d off=>exact absurd hp (hnl _ d off rfl y hy)
 |_=>simp[faV] at hv
theorem QP{t:TypeId}{n:Nat}{ag:Bool}(hn:Cv P t=some (n,ag)){b off:Nat}{v:PV}{cv:Nat→Value}(hf:fits n ag v=true)
  (hc:∀(j:Nat) (p:PV),v.cells[j]?=some p→w.cell? ⟨b,off+j,none⟩=some (cv j)) :
  ∃c,(Instr.loadAt t (.pointer (some ⟨b,off,none⟩))).run P w=.ok c w∧(∀I:Imm,(∀(j:Nat) (p:PV),v.cells[j]?=some p→Rep I w (cv j) p)→Rep I w c v)∧(ag=false→c=cv 0∧v.cells=[v]):=by
 cases ag with
 |true=>
  cases v with
  |agg cs=>
   simp[fits] at hf;refine⟨.agg ((List.range n).map cv).toArray,?_,fun I hr=>?_,fun h=>by cases h⟩
   ·have h:=run_loadCells (P:=P) (w:=w) ⟨b,off,none⟩ n cv (fun j hj=>by
     rw[Fh];have:cs[j]?=some cs[j]:=Ah (by omega)
     exact hc j _ this)
    simp[Instr.loadAt,Instr.sureAddr,loadVar,Jd hn,run_sizeOf hn,h]
   ·refine .agg (by simp[hf]) fun i p hp=>?_
    have hlt:=(Ad.1 hp).1
    have:((List.range n).map cv).toArray.getD i undef=cv i:=by
     simp[Array.getD,hf▸hlt]
    rw[this];exact hr i p hp
  |_=>simp[fits] at hf
 |false=>
  have hcell:v.cells=[v]:=by
   cases v with
   |agg cs=>simp[fits] at hf
   |aggr cs=>simp[fits] at hf
   |_=>rfl
  have h0:=hc 0 v (by rw[hcell];rfl)
  refine⟨cv 0,?_,fun I hr=>hr 0 v (by rw[hcell];rfl),fun _=>⟨rfl,hcell⟩⟩
  rw[Nat.add_zero] at h0;simp[Instr.loadAt,Instr.sureAddr,loadVar,Jd hn,run_load,h0]
theorem WW(hi:Inv cx G a w A σ)(hkd:∀t,cx.kd t=fi.kind t)(hnt:cx.nt=fi.nt){o:Oper}{t:TypeId}{x:Operand}(ho:o.op=.load t x){n:Nat}{ag:Bool}(hn:Cv P t=some (n,ag))
  {az:List CQ} (hc:Ap fi [x]=some az) (hd:BC fi o.dst=true) (hrun:BU pur call { dst:=o.dst,k:=.p (.ldp n ag),args:=az } A σ=some (A',σ')):Gives P cx o a w A' σ':=by
 refine gD hi hkd hnt hd hrun hc (YH (V:=fun p=>(ldV n ag p).map PV.Ae) (fun p=>by simp[Be];rfl) rfl (fun _ _ _=>rfl)) fun x' p r hx hv hp=>?_
 cases hx;obtain⟨q,hq,rfl⟩:=Ac.1 hv;cases p with
 |vptr v=>
  obtain⟨b,off,cv,ev,h1,h2,h3⟩:=(hp rfl).JV;simp only[ldV] at hq
  split at hq
  ·rename_i hf;cases hq;obtain⟨hfit,hfree⟩:=hf;obtain⟨c,hr,hrep,_⟩:=QP (P:=P) (w:=w) hn hfit h2;exact⟨by rw[Da];exact hfree,c,by simp[execOp,ho,ev,hr],.one (.inl (hrep _ h3).Ae),fun _=>Cr _⟩
  ·cases hq
 |_=>simp[ldV] at hq
end
end Go.Abs

namespace Go.Abs
open Go.RowKit
section
variable{P:Program}{pur:FuncId→Bool}{call:Caller}{fi:FI}{cx:Cx}{G:Gh}{a:Act}{w:World}{A A':Frm}{σ σ':Sto}
theorem Gw{I:Imm}{v:Value}{p:PV}(h:Rep I w v p):v.cells.size=p.cells.length∧∀(j:Nat) (q:PV),p.cells[j]?=some q→Rep I w (v.cells.getD j undef) q:=by
 cases h with
 |agg h hr=>exact⟨h,hr⟩
 |_=>
  refine⟨rfl,fun j q hq=>?_⟩
  cases j with
  |zero=>
   simp only[PV.cells,List.getElem?_cons_zero,Option.some.injEq] at hq
   subst hq
   constructor<;>assumption
  |succ j=>simp[PV.cells] at hq
theorem foldl_set(l:List Value):∀(s off:Nat) (cells:Array Value),off+s+l.length≤cells.size→
  (l.zipIdx s).foldl (fun(cs:Array Value) (x:Value×Nat)=>cs.setIfInBounds (off+x.2) x.1) cells = 
   (cells.toList.take (off+s)++l++cells.toList.drop (off+s+l.length)).toArray:=by
 induction l with
 |nil=>intro s off cells h;simp
 |cons v l ih=>
  intro s off cells h;simp only[List.zipIdx_cons,EM];simp only[Al] at h;rw[ih (s+1) off _ (by simp;omega)]
  apply congrArg;have hlt:off+s<cells.toList.length:=by simp;omega
  have e1:(cells.setIfInBounds (off+s) v).toList=cells.toList.set (off+s) v:=by simp
  rw[e1];rw[show off+(s+1)=(off+s)+1 from by omega,List.take_set,List.drop_set,if_pos (by omega)]
  have e2:(cells.toList.take (off+s+1)).set (off+s) v=cells.toList.take (off+s)++[v]:=by
   rw[List.take_succ_eq_append_getElem hlt,List.set_append_right _ _ (by simp;omega)]
   have:off+s - (cells.toList.take (off+s)).length=0:=by rw[Ba];omega
   rw[this];rfl
  rw[e2];simp only[Al,AP,BI,Bj];rw[show off+s+1+l.length=off+s+(l.length+1) from by omega]
theorem TS(v:Value)(off:Nat)(cells:Array Value)(h:off+v.cells.size≤cells.size):
  v.cells.zipIdx.foldl (fun(cs:Array Value) (x:Value×Nat)=>cs.setIfInBounds (off+x.2) x.1) cells=(cells.toList.take off++v.cells.toList++cells.toList.drop (off+v.cells.size)).toArray:=by
 have:=foldl_set v.cells.toList 0 off cells (by simpa using h)
 rw[←EH,Array.toList_zipIdx];simpa using this
def Mh(I:Imm)(w:World)(cs:List Value)(ps:List PV):Prop:=cs.length=ps.length∧∀(i:Nat) (p:PV),ps[i]?=some p→∃c,cs[i]?=some c∧Rep I w c p
theorem Mh.place{I:Imm}{cs:List Value}{ps:List PV}(h:Mh I w cs ps){ds:List Value}{qs:List PV}(h':Mh I w ds qs)(off:Nat)(hl:off+qs.length≤ps.length):
  Mh I w (cs.take off++ds++cs.drop (off+ds.length)) (EX ps off qs):=by
 unfold EX;refine⟨by simp[h.1,h'.1],fun i p hp=>?_⟩
 have e1:(cs.take off).length=off:=by rw[Ba,h.1];omega
 have e2:(ps.take off).length=off:=by rw[Ba];omega
 rw[AP] at hp ⊢;by_cases h1:i<off
 ·rw[Ak (by omega)] at hp ⊢
  rw[Cb,if_pos h1] at hp ⊢;exact h.2 i p hp
 ·rw[Ao (by omega),e2] at hp
  rw[Ao (by omega),e1]
  by_cases h2:i - off<qs.length
  ·rw[Ak h2] at hp;rw[Ak (by rw[h'.1];exact h2)]
   exact h'.2 _ p hp
  ·rw[Ao (by omega),Cw] at hp
   rw[Ao (by rw[h'.1];omega),Cw,h'.1]
   exact h.2 _ p hp
theorem Mh.Qq{I:Imm}{v:Value}{p:PV}(h:Rep I w v p):Mh I w v.cells.toList p.cells:=by
 obtain⟨h1,h2⟩:=Gw h;refine⟨by simpa using h1,fun i q hq=>?_⟩
 have hlt:i<v.cells.size:=by have:=(Ad.1 hq).1;omega
 refine⟨v.cells[i],by rw[Ay];exact AJ hlt,?_⟩
 have:=h2 i q hq;simpa [Array.getD,hlt] using this
theorem Mh.agg{I:Imm}{cs:Array Value}{ps:List PV}(h:Mh I w cs.toList ps):Rep I w (.agg cs) (.agg ps):=by
 refine .agg (by simpa using h.1) fun i p hp=>?_
 obtain⟨c,hc,hr⟩:=h.2 i p hp;rw[Ay] at hc;rw[Aj,hc];exact hr
theorem dx{I:Imm}{places:List (Nat×Nat)}:∀(parts:List (Nat×Operand)) (pl:List (Nat×Nat)) (vs:List PV) (cells:Array Value) (cs cs':List PV),
  J9 places parts=some pl→PL cs pl vs=some cs'→Mh I w cells.toList cs→
  (∀(i:Nat) (x:Nat×Operand) (p:PV),parts[i]?=some x→vs[i]?=some p→p.flat=true→Rep I w (a.eval x.2) p)→
  ∃cells',Instr.fill (places.toArray[·]?) cells (parts.map fun x=>(x.1,a.eval x.2))=some cells'∧Mh I w cells'.toList cs'
 |[],pl,vs,cells,cs,cs',hp,hf,hr,_=>by
  cases hp;cases vs with
  |nil=>simp only[PL] at hf;cases hf;exact⟨cells,rfl,hr⟩
  |cons _ _=>simp[PL] at hf
 |(i,x)::parts,pl,vs,cells,cs,cs',hp,hf,hr,hrep=>by
  simp only[J9] at hp
  split at hp
  ·rename_i p ps h1 h2;cases hp;obtain⟨off,n⟩:=p;cases vs with
   |nil=>simp[PL] at hf
   |cons v vs=>
    simp only[PL] at hf
    split at hf
    ·rename_i hc;obtain⟨hc1,hc2,hc3⟩:=hc;have hv:Rep I w (a.eval x) v:=(hrep 0 (i,x) v rfl rfl hc3);have hcell:=Mh.Qq hv.Ae;have hsz:=(Gw hv).1;have hlen:cells.size=cs.length:=by simpa using hr.1
     have hnew:Mh I w ((a.eval x).cells.zipIdx.foldl (fun(cs:Array Value) (x:Value×Nat)=>cs.setIfInBounds (off+x.2) x.1) cells).toList (EX cs off v.Ae.cells):=by
      rw[TS _ _ _ (by omega)]
      have:=hr.place hcell off (by rw[Ea];omega)
      simpa using this
     obtain⟨cells',h3,h4⟩:=dx parts ps vs _ _ cs' h2 hf hnew (fun k y p hy hp hfl=>hrep (k+1) y p (by simpa using hy) (by simpa using hp) hfl)
     refine⟨cells',?_,h4⟩
     have hpl:places.toArray[i]?=some (off,n):=by simpa using h1
     simp only[Bv,Instr.fill,hpl];rw[if_neg (by simp;omega)]
     exact h3
    ·cases hf
  ·cases hp
theorem kF(hi:Inv cx G a w A σ)(hkd:∀t,cx.kd t=fi.kind t)(hnt:cx.nt=fi.nt){o:Oper}{t:TypeId}{ps:Array (Nat×Operand)}(ho:o.op=.build t ps)
  {fs:Array Field} (hs':P.underlying t=some (.struct fs)) {z:List PV} (hz:FH P t=some (.agg z)) {places:List (Nat×Nat)}
  (hpl:fs.toList.mapM (fun f=>(P.info? f.type).map fun i=>(f.offset,i.size))=some places) {pl:List (Nat×Nat)} (hpp:J9 places ps.toList=some pl)
  {az:List CQ} (hc:Ap fi (ps.toList.map (·.2))=some az) (hd:BC fi o.dst=true) (hrun:BU pur call { dst:=o.dst,k:=.p (.build z pl),args:=az } A σ=some (A',σ')):Gives P cx o a w A' σ':=by
 refine TK hi hkd hnt hd hrun hc fun vs rs hs hl hrep=>?_
 simp only[Be] at hs;obtain⟨cs',hcs,e⟩:=Ac.1 hs;cases e;unfold FH at hz
 split at hz
 ·rename_i it hit;obtain⟨zv,hzv,hzp⟩:=AL.1 hz;have hzr:Rep G.I w zv (.agg z):=F8 hzp
  obtain⟨cells',h1,h2⟩:=dx (a:=a) (I:=G.I) (w:=w) ps.toList pl vs zv.cells z cs' hpp hcs (by simpa [PV.cells] using Mh.Qq hzr) (fun i x p hx hp hfl=>by
   exact(hrep i x.2 p (by rw[Am,hx];rfl) hp (IY hfl)).flat hfl)
  have hb:P.built t (ps.map fun(i,x)=>(i,a.eval x)).toList=some cells':=by
   unfold Program.built;simp only[hit,hs',hzv,hpl];rw[←h1];congr 1;simp
  refine⟨_,.agg cells',rfl,rfl,?_,.one (.inl h2.agg),fun _=>trivial⟩
  simp[execOp,ho,run_build w t _ cells' hb]
 ·cases hz
theorem Wz{k k':Ky}(h:k.val=k'.val):k=k':=by
 cases k<;>cases k'<;>simp[Ky.val] at h
 ·obtain⟨rfl,rfl⟩:=h;rfl
 ·rename_i l l';rw[h]
theorem ZL{d:TypeDesc}{k k':Ky}(hk:sameKind k k'=true)(hd:(∃i,d=.int i)∧(∃i n,k=.i i n)∨d=.string∧∃l,k=.s l):
  Instr.sameNow d k.val k'.val=some (decide (k'=k)):=by
 rcases hd with⟨⟨i,rfl⟩,j,n,rfl⟩ | ⟨rfl,l,rfl⟩
 ·cases k' with
  |i j' n'=>
   simp only[sameKind,beq_iff_eq] at hk;subst hk;simp only[Ky.val,Instr.sameNow,if_true];congr 1;by_cases h:n=n'
   ·subst h;simp
   ·have:¬(Ky.i j n'=Ky.i j n):=fun e=>by cases e;exact h rfl
    rw[decide_eq_false this,beq_eq_false_iff_ne];exact h
  |s l=>simp[sameKind] at hk
 ·cases k' with
  |i j' n'=>simp[sameKind] at hk
  |s l'=>
   simp only[Ky.val,Instr.sameNow];congr 1;by_cases h:l=l'
   ·subst h;rw[decide_eq_true rfl];exact(Go.MapKept.bytes_beq _ _).2 rfl
   ·have h1:¬(Ky.s l'=Ky.s l):=fun e=>by cases e;exact h rfl
    rw[decide_eq_false h1];cases hb:((⟨⟨l⟩⟩:ByteArray)==⟨⟨l'⟩⟩) with
    |false=>rfl
    |true=>have:=(Go.MapKept.bytes_beq _ _).1 hb;cases this;exact absurd rfl h
theorem LK{d:TypeDesc}{k:Ky}(hd:(∃i,d=.int i)∧(∃i n,k=.i i n)∨d=.string∧∃l,k=.s l):∀(es:List MapEntry) (s:Nat),
  (∀e∈es,∃k',e.key=k'.val∧sameKind k k'=true) → 
  (∃j e,es[j]?=some e∧e.key=k.val∧Instr.findNow d k.val es s=some (some (s+j,e.val)))∨((∀e∈es,e.key≠k.val)∧Instr.findNow d k.val es s=some none)
 |[],s,_=>.inr ⟨(fun e h=>by cases h),rfl⟩
 |e::es,s,h=>by
  obtain⟨k',h1,h2⟩:=h e (AR ..);have hsn:=ZL h2 hd;simp only[Instr.findNow,h1,hsn];by_cases hk:k'=k
  ·subst hk;rw[decide_eq_true rfl];exact .inl ⟨0,e,rfl,h1,rfl⟩
  ·rw[decide_eq_false hk];rcases LK hd es (s+1) (fun e he=>h e (AA _ he)) with⟨j,e',he,hke,hf⟩ | ⟨hno,hf⟩
   ·exact .inl ⟨j+1,e',by simpa using he,hke,by rw[hf,show s+1+j=s+(j+1) from by omega]⟩
   ·refine .inr ⟨fun e' he'=>?_,hf⟩
    rcases AY.1 he' with rfl | h'
    ·rw[h1];exact fun e=>hk (Wz e)
    ·exact hno e' h'
theorem PI(k:Ky):∀(ks:List Ky) (vs:List PV),vs.length=ks.length→(∀v,findKey k ks vs=some v→∃j:Nat,ks[j]?=some k∧vs[j]?=some v)∧(findKey k ks vs=none→k∉ks)
 |[],vs,_=>by cases vs<;>simp[findKey]
 |x::ks,[],h=>by simp at h
 |x::ks,v::vs,h=>by
  obtain⟨h1,h2⟩:=PI k ks vs (by simpa using h)
  simp only[findKey];split
  ·rename_i hx;subst hx;exact⟨fun u hu=>⟨0,rfl,by simpa using hu⟩,fun h=>by cases h⟩
  ·rename_i hx;refine⟨fun u hu=>?_,fun hn=>?_⟩
   ·obtain⟨j,hj1,hj2⟩:=h1 u hu;exact⟨j+1,by simpa using hj1,by simpa using hj2⟩
   ·simp only[AY,not_or];exact⟨fun e=>hx e.symm,h2 hn⟩
theorem Bz.qZ{I:Imm}{bl:Bl}{v:Value}{ks:List Ky}{vs:List PV}(h:Bz I bl w v (.mapv ks vs)):∃r clock es,∃ix:Nat→Nat,v=.map (some r)∧w.heap[r]?=some (.map es clock)∧vs.length=ks.length∧
  (∀(i:Nat) (e:MapEntry),es[i]?=some e→∃k∈ks,e.key=k.val)∧(∀(i j:Nat) (e f:MapEntry),es[i]?=some e→es[j]?=some f→e.key=f.key→i=j)∧
  (∀(j:Nat) (k:Ky),ks[j]?=some k→((es[ix j]?).map (·.key))=some k.val)∧(∀(j:Nat) (e:MapEntry) (p:PV),es[ix j]?=some e→vs[j]?=some p→Rep I w e.val p):=by
 cases h.rep rfl (by simp) (by simp) with
 |mapv ix h1 h2 h3 h4 h5 h6 h7=>exact⟨_,_,_,ix,rfl,h2,h3,h4,h5,h6,h7⟩
theorem run_checkKey{empty:Bool}{t:TypeId}{d:TypeDesc}(ht:P.underlying t=some d)(hd:(∃k,d=.int k)∨d=.string)(v:Value):(Instr.checkKey empty 10000 t v).run P w=.ok () w:=by
 show(Instr.checkKey empty (9999+1) t v).run P w=_;generalize 9999=n;rcases hd with⟨k,rfl⟩ | rfl<;>simp[Instr.checkKey,underlying,ht]
theorem Tv{p:PV}{k:Ky}(h:Pt p=some k){v:Value}{I:Imm}{bl:Bl}(hr:Bz I bl w v p):v=k.val:=by
 cases p with
 |int i n=>simp only[Pt] at h;cases h;exact hr.CF
 |str l=>
  simp only[Pt] at h;cases h;obtain⟨s,rfl,rfl⟩:=hr.EU;cases s;rfl
 |_=>simp[Pt] at h
theorem OE{p:PV}{k:Ky}(h:Pt p=some k):p.free=true:=by cases p<;>first | rfl | simp[Pt] at h
theorem ZA(hi:Inv cx G a w A σ)(hkd:∀t,cx.kd t=fi.kind t)(hnt:cx.nt=fi.nt){o:Oper}{t kt et:TypeId}{x y:Operand}{ok:Bool}(ho:o.op=.lookup t x y ok)(ht:P.underlying t=some (.map kt et))
  {d:TypeDesc} (hkt:P.underlying kt=some d) (hdk:(∃k,d=.int k)∨d=.string) {z:PV} (hz:FH P et=some z)
  {az:List CQ} (hc:Ap fi [x,y]=some az) (hd:BC fi o.dst=true) (hrun:BU pur call { dst:=o.dst,k:=.p (.look z ok d.isInt),args:=az } A σ=some (A',σ')):Gives P cx o a w A' σ':=by
 refine TL hi hkd hnt hd hrun hc (Qd (V:=Tn z ok d.isInt) (fun _ _=>rfl) rfl (fun _=>rfl) (fun _ _ _ _=>rfl)) fun x' y' p q r hx hv hp hq=>?_
 cases hx;cases p with
 |mapv ks vs=>
  obtain⟨rr,clock,es,ix,ev,hheap,hlen,hkeys,hone,hlt,hrv⟩:=(hp rfl).qZ;simp only[Tn] at hv
  split at hv
  ·rename_i k hk;have eq:=Tv hk (hq (OE hk))
   split at hv
   ·rename_i hc';obtain⟨hall,hint⟩:=hc'
    have hdd:(∃i,d=.int i)∧(∃i n,k=.i i n)∨d=.string∧∃l,k=.s l:=by
     rcases hdk with⟨i,rfl⟩ | rfl
     ·cases k with
      |i j n=>exact .inl ⟨⟨i,rfl⟩,j,n,rfl⟩
      |s l=>simp[TypeDesc.isInt,Ky.isInt] at hint
     ·cases k with
      |i j n=>simp[TypeDesc.isInt,Ky.isInt] at hint
      |s l=>exact .inr ⟨rfl,l,rfl⟩
    have hsk:∀e∈es.toList,∃k',e.key=k'.val∧sameKind k k'=true:=by
     intro e he;obtain⟨i,hie⟩:=BL.1 he;rw[Ay] at hie;obtain⟨k',hk',e'⟩:=hkeys i e hie;exact⟨k',e',Av.1 hall k' hk'⟩
    have hzr:∃zv,(zeroValue et).run P w=.ok zv w∧Rep G.I w zv z∧z.free=true:=by
     unfold FH at hz
     split at hz
     ·rename_i it hit;obtain⟨zv,hzv,hzp⟩:=AL.1 hz;exact⟨zv,by simp[zeroValue,typeInfo,hit,hzv],F8 hzp,OG hzp⟩
     ·cases hz
    obtain⟨zv,hzrun,hzrep,hzfree⟩:=hzr;have hck:=run_checkKey (P:=P) (w:=w) (empty:=es.isEmpty) hkt hdk k.val;have hget:(getObj rr).run P w=.ok (.map es clock) w:=by simp[getObj,Sem.run,hheap]
    have hund:(underlying kt).run P w=.ok d w:=by simp[underlying,hkt]
    obtain⟨hs1,hs2⟩:=PI k ks vs hlen
    have fin:∀(u:PV) (c:Value) (b:Bool),Rep G.I w c u→u.free=true→r=(if ok then .tuple [u.Ae,.bool b] else u.Ae)→(execOp a.eval o).run P w=.ok (.value (if ok then .tuple #[c,.bool b] else c)) w→
      r.free=true∧∃v,(execOp a.eval o).run P w=.ok (.value v) w∧Bz G.I G.bl w v r∧∀tag,Eo G w tag v r:=by
     intro u c b hr hf e hrun;subst e;cases ok with
     |true=>
      refine⟨rfl,_,hrun,?_,fun _=>trivial⟩
      refine .tuple rfl fun i p hp=>?_
      match i with
      |0=>simp at hp;subst hp;exact .inl hr.Ae
      |1=>simp at hp;subst hp;exact .inl (.bool b)
      |n+2=>simp at hp
     |false=>exact⟨by rw[if_neg (by simp),Da];exact hf,_,hrun,.one (.inl hr.Ae),fun _=>Cr u⟩
    rcases LK hdd es.toList 0 hsk with⟨j,e,hej,hke,hfn⟩ | ⟨hno,hfn⟩
    ·split at hv
     ·rename_i u hu
      split at hv
      ·rename_i hfu;cases hv;obtain⟨j',hj1,hj2⟩:=hs1 u hu;have hix:=hlt j' k hj1;obtain⟨e',he',hke'⟩:=Ac.1 hix;rw[Ay] at hej;have hjj:=hone _ _ _ _ hej he' (hke.trans hke'.symm);rw[hjj,he'] at hej;cases hej;refine fin u e.val true (hrv j' e u he' hj2) hfu rfl ?_
       simp[execOp,ho,Instr.lookup,ht,underlying,ev,eq,hget,hck,Instr.findKey,hkt,hfn]
      ·cases hv
     ·rename_i hu
      exfalso
      rw[Ay] at hej;obtain⟨k',hk',e'⟩:=hkeys j e hej;have:=Wz (e'.symm.trans hke);subst this;exact hs2 hu hk'
    ·split at hv
     ·rename_i u hu
      exfalso
      obtain⟨j',hj1,hj2⟩:=hs1 u hu;have hix:=hlt j' k hj1;obtain⟨e',he',hke'⟩:=Ac.1 hix
      have:e'∈es.toList:=by
       rw[←Ay] at he';exact Au he'
      exact hno e' this hke'
     ·cases hv;refine fin z zv false hzrep hzfree rfl ?_
      simp[execOp,ho,Instr.lookup,ht,underlying,ev,eq,hget,hck,Instr.findKey,hkt,hfn,hzrun]
   ·cases hv
  ·cases hv
 |nilm=>
  have ev:a.eval x=.map none:=(hp rfl).Tg;simp only[Tn] at hv
  split at hv
  ·rename_i k hk;have eq:=Tv hk (hq (OE hk))
   split at hv
   ·rename_i hint;cases hv
    have hzr:∃zv,(zeroValue et).run P w=.ok zv w∧Rep G.I w zv z∧z.free=true:=by
     unfold FH at hz
     split at hz
     ·rename_i it hit;obtain⟨zv,hzv,hzp⟩:=AL.1 hz;exact⟨zv,by simp[zeroValue,typeInfo,hit,hzv],F8 hzp,OG hzp⟩
     ·cases hz
    obtain⟨zv,hzrun,hzrep,hzfree⟩:=hzr;have hck:=run_checkKey (P:=P) (w:=w) (empty:=true) hkt hdk k.val
    have hrun:(execOp a.eval o).run P w=.ok (.value (if ok then .tuple #[zv,.bool false] else zv)) w:=by
     simp[execOp,ho,Instr.lookup,ht,underlying,ev,eq,hck,Instr.findKey,hkt,Instr.findNow,hzrun]
    cases ok with
    |true=>
     refine⟨rfl,_,hrun,?_,fun _=>trivial⟩
     refine .one (.inl (.tuple rfl fun i p hp=>?_))
     match i with
     |0=>simp at hp;subst hp;exact hzrep.Ae
     |1=>simp at hp;subst hp;exact .bool false
     |n+2=>simp at hp
    |false=>exact⟨by rw[if_neg (by simp),Da];exact hzfree,_,hrun,.one (.inl hzrep.Ae),fun _=>Cr z⟩
   ·cases hv
  ·cases hv
 |_=>simp[Tn] at hv
end
end Go.Abs

namespace Go.Abs
open Go.RowKit
def Gh.LH(G:Gh)(n:Nat)(J:Option Nat→Prop)(tag:Option Tag):Gh:=
 ⟨fun b x=>G.I b x∨(b=n∧J x),fun b=>if b=n then tag else G.ω b,G.bl⟩
section
variable{P:Program}{pur:FuncId→Bool}{call:Caller}{fi:FI}{cx:Cx}{G:Gh}{a:Act}{w:World}{A A':Frm}{σ σ':Sto}
theorem heap_alloc_old'(w:World)(o:Obj)(i:Nat)(h:i<w.heap.size):(w.alloc o).heap[i]?=w.heap[i]?:=by
 show(w.heap.push o)[i]?=_;rw[ED,if_neg (by omega)]
theorem heap_alloc_new'(w:World)(o:Obj):(w.alloc o).heap[w.heap.size]?=some o:=by
 show(w.heap.push o)[w.heap.size]?=_;simp
theorem cell_of_heap{w w':World}{b o:Nat}(h:w'.heap[b]?=w.heap[b]?):w'.cell? ⟨b,o,none⟩=w.cell? ⟨b,o,none⟩:=by
 simp only[World.cell?,h]
theorem PQ(w:World)(cs:Array Value)(t:TypeId)(fz:Nat×Nat)(j:Nat):(w.alloc (.cells cs t fz)).cell? ⟨w.heap.size,j,none⟩=cs[j]?:=by
 simp only[World.cell?,heap_alloc_new'];rfl
theorem FN(X:Tag→Prop)(hb:Base cx G w)(o:Obj)(J:Option Nat→Prop)(tag:Option Tag):Ext X G (G.LH w.heap.size J tag) w (w.alloc o):=by
 refine⟨fun b x h=>.inl h,⟨fun b x h=>cell_of_heap (heap_alloc_old' _ _ _ (hb.lt _ _ h)),fun b h=>heap_alloc_old' _ _ _ (hb.lt _ _ h)⟩,Bl.le_refl _,fun _ _ _ _=>rfl,fun b tg h _=>?_⟩
 have hlt:=(hb.own b tg h).1;have hne:b≠w.heap.size:=by omega
 refine⟨by simp[Gh.LH,hne,h],heap_alloc_old' _ _ _ hlt,fun x hx=>?_⟩
 rcases hx with hx | ⟨rfl,_⟩
 ·exact hx
 ·exact absurd rfl hne
theorem E9(hb:Base cx G w)(o:Obj)(J:Option Nat→Prop)(tag:Option Tag):Base cx (G.LH w.heap.size J tag) (w.alloc o):=by
 have hsz:(w.alloc o).heap.size=w.heap.size+1:=by show(w.heap.push o).size=_;simp
 refine⟨fun b h=>?_,?_,fun b x h=>.inl (hb.sub b x h),fun b x h=>?_,fun b x h=>?_,fun b tg h=>?_,hb.Klt,by rw[hsz];have:=hb.grow;omega,hb.bl,hb.os,hb.tape,hb.output⟩
 ·have:=hb.Klt b h;have:=hb.grow;rw[heap_alloc_old' _ _ _ (by omega)];exact hb.keep b h
 ·refine hb.same.trans (I':=G.I) ⟨fun b x h=>cell_of_heap (heap_alloc_old' _ _ _ (hb.lt _ _ h)),fun b h=>heap_alloc_old' _ _ _ (hb.lt _ _ h)⟩ hb.sub
 ·rcases h with h | ⟨rfl,_⟩
  ·exact hb.new b x h
  ·refine .inr fun hk=>?_
   have:=hb.Klt _ hk;have:=hb.grow;omega
 ·rw[hsz];rcases h with h | ⟨rfl,_⟩
  ·have:=hb.lt b x h;omega
  ·omega
 ·rw[hsz];simp only[Gh.LH] at h
  split at h
  ·rename_i hbn;subst hbn;refine⟨by omega,fun hk=>?_⟩
   have:=hb.Klt _ hk;have:=hb.grow;omega
  ·have:=hb.own b tg h;exact⟨by omega,this.2⟩
theorem Ki(X:Tag→Prop):Ext X G G w w.drew:=⟨fun _ _ h=>h,⟨fun _ _ _=>rfl,fun _ _=>rfl⟩,Bl.le_refl _,fun _ _ _ _=>rfl,fun _ _ h _=>⟨h,rfl,fun _ h=>h⟩⟩
theorem Gy(hb:Base cx G w):Base cx G w.drew:=⟨hb.keep,⟨hb.same.cell,hb.same.blk⟩,hb.sub,hb.new,hb.lt,hb.own,hb.Klt,hb.grow,hb.bl,hb.os,hb.tape,hb.output⟩
theorem Ext.trans{X:Tag→Prop}{G1 G2 G3:Gh}{w1 w2 w3:World}(h:Ext X G1 G2 w1 w2)(k:Ext X G2 G3 w2 w3):Ext X G1 G3 w1 w3:=by
 refine⟨fun b x h'=>k.I _ _ (h.I _ _ h'),h.same.trans k.same h.I,h.bl.trans k.bl,fun id hid hX g=>(k.ab id (Bi hid h.bl.1.length_le) hX g).trans (h.ab id hid hX g),fun b tg ht hX=>?_⟩
 obtain⟨a1,a2,a3⟩:=h.fix b tg ht hX;obtain⟨b1,b2,b3⟩:=k.fix b tg a1 hX;exact⟨b1,b2.trans a2,fun x hx=>a3 x (b3 x hx)⟩
theorem YT(hi:Inv cx G a w A σ){o:Oper}{k:PK}{az:List CQ}(hdst:∀d,o.dst=some d→d<cx.nt∧(cx.kd d).val=true)
  (hrun:BU pur call { dst:=o.dst,k:=.p k,args:=az } A σ=some (A',σ'))
  (hsem:∀vs rs,BS A az=some vs→Be k vs=some rs→∃p v G' w',rs=[some p]∧p.free=true∧(execOp a.eval o).run P w=.ok (.value v) w'∧
   Ext (fun _=>False) G G' w w'∧Base cx G' w'∧G'.bl=G.bl∧Bz G'.I G'.bl w' v p∧∀d,o.dst=some d→Eo G' w' (.slot d none) v p):Gives P cx o a w A' σ':=by
 obtain⟨vs,rs,h1,h2,rfl,h3⟩:=kI hrun;obtain⟨p,v,G',w',rfl,hf,hr,he,hb,hbl,hrep,how⟩:=hsem vs rs h1 h2;rw[h3 p rfl];exact .inl ⟨v,w',hr,G',hi.NH he hb hbl o.dst hdst hf hrep how⟩
theorem AzL(hi:Inv cx G a w A σ)(hkd:∀t,cx.kd t=fi.kind t){o:Oper}{t:TypeId}{x:Operand}(ho:o.op=.box t x)
  (hdst:∀d,o.dst=some d→d<cx.nt∧(cx.kd d).val=true)
  {az:List CQ} (hc:Ap fi [x]=some az) (hrun:BU pur call { dst:=o.dst,k:=.p .bx,args:=az } A σ=some (A',σ')):Gives P cx o a w A' σ':=by
 refine YT hi hdst hrun fun vs rs he hs=>?_
 obtain⟨y,zs,rfl,hy,hz⟩:=AV hc;cases hz;obtain⟨p,qs,rfl,hp,hq⟩:=Ar he;cases hq;simp only[Be] at hs
 split at hs
 ·rename_i hf;cases hs;have hrep:=((Bp hi hkd hy hp (IY hf)).flat hf).Ae;obtain⟨hsz,hcell⟩:=Gw hrep
  let J:Option Nat→Prop:=fun x=>∃o,x=some o
  refine⟨_,.pointer (some ⟨w.heap.size,0,none⟩),G.LH w.heap.size J none,w.alloc (.cells (a.eval x).cells t),rfl,rfl,?_,FN _ hi.base _ _ _,E9 hi.base _ _ _,rfl,?_,fun _ _=>trivial⟩
  ·simp only[execOp,ho,Instr.box,newVar,newRow];rfl
  ·have hext:=FN (fun _=>False) hi.base (.cells (a.eval x).cells t) J none
   refine .one (.inl (.vptr (fun j=>(a.eval x).cells.getD j undef) (fun j q hq=>.inr ⟨rfl,⟨_,rfl⟩⟩) (fun j q hq=>?_) (fun j q hq=>(hcell j q hq).mono hext.I hext.same)))
   rw[Bq,PQ];have hlt:j<(a.eval x).cells.size:=by have:=(Ad.1 hq).1;omega
   simp[Array.getD,hlt]
 ·cases hs
theorem OX(w:World)(cs:Array Value)(t:TypeId):∃fz,(markStringish ⟨w.heap.size,0,none⟩).run P (w.alloc (.cells cs t))=.ok () (w.alloc (.cells cs t fz)):=by
 refine⟨(cs.size,cs.size+1),?_⟩
 have hshape:(w.alloc (.cells cs t)).shape? w.heap.size=some (t,cs.size):=by
  simp only[World.shape?,heap_alloc_new']
 simp only[markStringish,Sem.run_bind,run_shape,hshape,Result.andThen_ok,run_freeze];congr 1;simp only[World.freeze,World.alloc];rw[if_neg (by omega)]
 congr 1;apply Array.ext_getElem?;intro i;rw[Cz,ED,ED];by_cases h:w.heap.size=i
 ·subst h;simp
 ·have:¬i=w.heap.size:=fun e=>h e.symm
  simp[h,this]
theorem vT(hi:Inv cx G a w A σ)(hkd:∀t,cx.kd t=fi.kind t)(hnt:cx.nt=fi.nt){o:Oper}{s t e:TypeId}{x:Operand}(ho:o.op=.convert s t x)
  (hs':P.underlying s=some .string) (ht:P.underlying t=some (.slice e)) (he':P.underlying e=some (.int .u8))
  {az:List CQ} (hc:Ap fi [x]=some az) (hd:BC fi o.dst=true) (hrun:BU pur call { dst:=o.dst,k:=.p .cvb,args:=az } A σ=some (A',σ')):Gives P cx o a w A' σ':=by
 refine YT hi (Ee hkd hnt hd) hrun fun vs rs he hs=>?_
 obtain⟨y,zs,rfl,hy,hz⟩:=AV hc;cases hz;obtain⟨p,qs,rfl,hp,hq⟩:=Ar he;cases hq;cases p with
 |str l=>
  obtain⟨b,ev,rfl⟩:=(Bp hi hkd hy hp rfl).EU;simp only[Be] at hs;cases hs
  let cap:=Question.cut (.appendCap b.size 0 e) (w.tape w.drawn (.appendCap b.size 0 e))
  let cs:Array Value:=(b.data.map fun c=>Value.int .u8 c.toNat)++Array.replicate (cap - b.size) (.int .u8 0)
  obtain⟨fz,hm⟩:=OX (P:=P) w.drew cs e
  let J:Option Nat→Prop:=fun x=>∃o,x=some o
  have hext:=(Ki (G:=G) (w:=w) (fun _=>False)).trans (FN (fun _=>False) (Gy hi.base) (.cells cs e fz) J none)
  have hsize:b.size=b.data.size:=rfl;refine⟨_,.slice (some ⟨w.heap.size,0,none⟩) b.size cap,G.LH w.heap.size J none,w.drew.alloc (.cells cs e fz),rfl,rfl,?_,hext,E9 (Gy hi.base) _ _ _,rfl,?_,fun _ _=>trivial⟩
  ·simp only[execOp,ho,convert,underlying,Sem.run_bind,run_program,hs',ht,Result.andThen_ok,Sem.run_pure,ev,he',Conv.stringToBytes,run_choose,Question.forced,newRow,run_newObj];have:(markStringish ⟨w.heap.size,0,none⟩).run P (w.drew.alloc (.cells cs e))=.ok () (w.drew.alloc (.cells cs e fz)):=hm;simp only[Bool.false_eq_true,if_false];show(Result.andThen (Result.andThen ((markStringish ⟨w.heap.size,0,none⟩).run P (w.drew.alloc (.cells cs e))) _) _)=_;rw[this];rfl
  ·refine .one (.inl (.slice (fun i _=>cs.getD i undef) (by rw[Aq];exact Lib.size_eq b) ?_ (fun _=>rfl) ?_ ?_ ?_ ?_))
   ·show b.size≤cap;simp only[cap,Question.cut];omega
   ·intro i el hel;rw[Am] at hel;obtain⟨c,_,rfl⟩:=Ac.1 hel;rfl
   ·intro i el j q hel hq;exact .inr ⟨rfl,⟨_,rfl⟩⟩
   all_goals (
    intro i el j q hel hq;rw[Am] at hel;obtain⟨c,hc',rfl⟩:=Ac.1 hel;have hlt:i<b.data.size:=by have:=(Ad.1 hc').1;simpa using this
    have hj:j=0:=by
     cases j with
     |zero=>rfl
     |succ j=>simp[PV.cells] at hq
    subst hj;simp[PV.cells] at hq;subst hq
    have hcs:cs[i]?=some (Value.int .u8 c.toNat):=by
     simp only[cs];rw[DC (by simpa using hlt),Array.getElem?_map]
     rw[Ay] at hc';rw[hc'];rfl)
   ·have:=PQ w.drew cs e fz i;rw[show(0+i * 1+0)=i from by omega]
    rw[show cs.getD i undef=Value.int .u8 c.toNat from by rw[Aj,hcs];rfl,←hcs]
    exact this
   ·rw[show cs.getD i undef=Value.int .u8 c.toNat from by rw[Aj,hcs];rfl]
    exact .int _ _
 |_=>simp[Be] at hs
end
end Go.Abs
