/- A part of the proof: D2 D3 D25 D8 W2 D10 D9 G6. -/
import Derived.Test.YtngalibidopjlaaGreatDoorKaz

set_option linter.unusedVariables false
set_option linter.unusedSimpArgs false
namespace Go.Abs.Z
open Go.Proofs Go.RowKit
def wd(s:List UInt8)(t:Tk):List UInt8:=(s.drop t.a).take (t.e - t.a)
def wAt(s:List UInt8)(ls:List Tk)(k:Nat):Wd:=match ls[k]? with | some t=>(t.k,wd s t) | none=>(5,[])
def tA(ls:List Tk)(k:Nat):Nat:=match ls[k]? with | some t=>t.a | none=>0
def tE(ls:List Tk)(k:Nat):Nat:=match ls[k]? with | some t=>t.e | none=>0
def en(ls:List Tk):Nat→Nat
 |0=>0
 |k+1=>tE ls k
def spW:List (List UInt8):=[wRec,wProc,wVar,wIf,wElse,AXT,wFor,wTo,AzU,AkM,wAnd,wOr,wNot,wTrue,AJJ,wInt,wBool,wLen,
 [61,61],[33,61],[60],[60,61],[62],[62,61],[43],[45],[42],[47],[37],[40],[41],[123],[125],[91],[93],[44],[59],[58],[46],[61]]
def begK:List (List UInt8):=[wVar,wIf,AXT,wFor,AzU,AkM]
structure Toks(s:List UInt8)(ls:List Tk)(m:Nat):Prop where
 len:ls.length=m+1
 big:m<1000000
 small:s.length<1000000
 fin:∃t,ls[m]?=some t∧t.k=5∧t.e=t.a
 ord:∀(k:Nat) (t:Tk),ls[k]?=some t→t.a≤t.e∧t.e≤s.length
 inc:∀(i j:Nat) (t u:Tk),ls[i]?=some t→ls[j]?=some u→i<j→t.a<u.a∧t.e≤u.a
 kd:∀(k:Nat) (t:Tk),ls[k]?=some t→k<m→t.k<4
 sp:∀(k:Nat) (t:Tk),ls[k]?=some t→spW.contains (wd s t)=true→t.k=1∨t.k=3
 par:∀(k:Nat) (t:Tk),ls[k]?=some t→wd s t=[40]→t.k=3
 kw:∀(k:Nat) (t:Tk),ls[k]?=some t→begK.contains (wd s t)=true→t.k=1
def wrP(q:Nat)(D:List AD):PV:=match D with | []=>.nils | d::D=>.arr q D.length 0 (D.length+1) 5
def bfP(ls:List Tk)(D:List AD):Int:=match D.getLast? with | none=>-1 | some d=>(tA ls d.i:Nat)
def dgp(ls:List Tk)(d:AD):PV:=(Dg.mk d.c (tA ls d.i) (tE ls d.i) d.t).pv
def arS(ls:List Tk)(D:List AD):Sto:=match D with | []=>[] | d::D=>[[.arrv D.length 5 ((d::D).map (dgp ls))]]
def PS4(s:List UInt8)(ls:List Tk)(B:Sto)(k:Nat)(D:List AD):Sto:=pc s ls k (en ls k) (wrP (B.length+1) D) (bfP ls D)::(B++arS ls D)
section
variable{s:List UInt8}{ls:List Tk}{m:Nat}
theorem Toks.at(H:Toks s ls m){k:Nat}(h:k≤m):∃t,ls[k]?=some t:=⟨_,List.getElem?_eq_getElem (by rw[H.len];omega)⟩
theorem AXU{k:Nat}{t:Tk}(h:ls[k]?=some t):wAt s ls k=(t.k,wd s t):=by simp[wAt,h]
theorem tA_eq{k:Nat}{t:Tk}(h:ls[k]?=some t):tA ls k=t.a:=by simp[tA,h]
theorem tE_eq{k:Nat}{t:Tk}(h:ls[k]?=some t):tE ls k=t.e:=by simp[tE,h]
theorem Toks.end'(H:Toks s ls m):wAt s ls m=(5,[]):=by
 obtain⟨t,h1,h2,h3⟩:=H.fin;rw[AXU h1,h2];simp[wd,h3]
theorem Toks.lt(H:Toks s ls m){k:Nat}(h:k≤m)(h5:(wAt s ls k).1≠5):k<m:=by
 rcases Nat.lt_or_ge k m with h' | h'
 ·exact h'
 ·have:k=m:=by omega
  subst this;rw[H.end'] at h5;exact absurd rfl h5
theorem wr_self(q:Nat)(D:List AD):(wrP q D).isSelf=false:=by cases D<;>rfl
theorem p137(ws:List (List UInt8))(x:List UInt8)(hl:ws.length<1000):∀(n j:Nat),j+n=ws.length→(∀i,i<j→ws[i]?≠some x)→
  (∃i,LL a177 0 [(0,some (.slice false 1 (ws.map PV.str))),(1,some (.str x)),(7,some (N ws.length)),(8,some (N j))] [] .ret [(4,some (N i))] []∧ws.contains x=true) ∨
  (LL a177 0 [(0,some (.slice false 1 (ws.map PV.str))),(1,some (.str x)),(7,some (N ws.length)),(8,some (N j))] [] (.exit 0) [(0,some (.slice false 1 (ws.map PV.str)))] []∧ws.contains x=false):=by
 intro n
 induction n with
 |zero=>
  intro j hj h;refine .inr ⟨r137_l0_out1 (by omega),?_⟩
  rw[←Bool.not_eq_true,List.contains_iff_mem,List.mem_iff_getElem?]
  rintro⟨i,hi⟩
  have:=(List.getElem?_eq_some_iff.1 hi).1
  exact h i (by omega) hi
 |succ n ih=>
  intro j hj h;have hlt:j<ws.length:=by omega
  have hg:=List.getElem?_eq_getElem hlt
  by_cases hx:x=ws[j]
  ·refine .inl ⟨j,r137_l0_out2 (by omega) hg hx,?_⟩
   rw[List.contains_iff_mem,hx];exact List.getElem_mem hlt
  ·rcases ih (j+1) (by omega) (fun i hi=>by
    rcases Nat.lt_or_ge i j with h' | h'
    ·exact h i h'
    ·have:i=j:=by omega
     subst this;rw[hg];intro e;exact hx (Option.some.inj e).symm) with⟨i,h1,h2⟩ | ⟨h1,h2⟩
   ·exact .inl ⟨i,AwB (by omega) hg hx (by omega) h1,h2⟩
   ·exact .inr ⟨AwB (by omega) hg hx (by omega) h1,h2⟩
theorem p101(ws:List (List UInt8))(x:List UInt8)(hl:ws.length<1000):E 132 [.slice false 1 (ws.map PV.str),.str x] [] (.bool (ws.contains x)) []:=by
 rcases p137 ws x hl ws.length 0 (by omega) (fun i h=>by omega) with⟨i,h1,h2⟩ | ⟨h1,h2⟩
 ·have:=r101 (r137_2 h1);rw[h2]
  rwa [decide_eq_true (by omega)] at this
 ·have:=r101 (r137_1 h1);rw[h2];exact this
variable{B:Sto}{k:Nat}{D:List AD}
theorem p47(H:Toks s ls m)(h:k≤m){j:Nat}(hj:j≤1){t:Tk}(ht:ls[min (k+j) m]?=some t):E 57 [.ref 0 0,N j] (PS4 s ls B k D) t.pv (PS4 s ls B k D):=by
 have:=H.big;refine r47 (by omega) (by omega) (by rw[H.len];omega) (by rw[H.len];omega) ?_
 rw[H.len];exact ht
theorem p47'(H:Toks s ls m)(h:k≤m){t:Tk}(ht:ls[k]?=some t):E 57 [.ref 0 0,I 0] (PS4 s ls B k D) t.pv (PS4 s ls B k D):=
 p47 H h (j:=0) (by omega) (by rw[show min (k+0) m=k by omega];exact ht)
theorem p102'(H:Toks s ls m){i:Nat}{t:Tk}(ht:ls[i]?=some t){l:Nat}{wr:PV}{bf:Int}{T:Sto}:E 133 [.ref 0 0,t.pv] (pc s ls k l wr bf::T) (.str (wd s t)) (pc s ls k l wr bf::T):=by
 obtain⟨h1,h2⟩:=H.ord i t ht;exact r102 (p_ssl s t.a t.e h1 h2)
theorem p102(H:Toks s ls m){i:Nat}{t:Tk}(ht:ls[i]?=some t):E 133 [.ref 0 0,t.pv] (PS4 s ls B k D) (.str (wd s t)) (PS4 s ls B k D):=p102' H ht
theorem p50(H:Toks s ls m)(h:k≤m)(ws:List (List UInt8))(hl:ws.length<1000)(hw:ws.all spW.contains=true):E 60 [.ref 0 0,.slice false 1 (ws.map PV.str)] (PS4 s ls B k D) (.bool (ws.contains (wAt s ls k).2)) (PS4 s ls B k D):=by
 obtain⟨t,ht⟩:=H.at h;have h1:=p47' (B:=B) (D:=D) H h ht;have h2:=p102 (k:=k) (B:=B) (D:=D) H ht;rw[AXU ht];by_cases c1:t.k=1
 ·exact r50_1 h1 (by omega) h2 (p101 ws _ hl)
 ·by_cases c3:t.k=3
  ·exact r50_2 h1 (by omega) (by omega) h2 (p101 ws _ hl)
  ·have hf:ws.contains (wd s t)=false:=by
    rw[←Bool.not_eq_true,List.contains_iff_mem];intro hm;have:=H.sp k t ht (List.all_eq_true.1 hw _ hm);omega
   show E 60 _ _ (.bool (ws.contains (wd s t))) _;rw[hf];exact r50_3 h1 (by omega) (by omega)
theorem p49(H:Toks s ls m)(h:k≤m)(j:Nat):E 59 [.ref 0 0,N j] (PS4 s ls B k D) (.bool (decide ((wAt s ls k).1=j))) (PS4 s ls B k D):=by
 obtain⟨t,ht⟩:=H.at h;have:=r49 (j:=(j:Int)) (p47' (B:=B) (D:=D) H h ht);rw[AXU ht]
 have e:(((t.k:Nat):Int)==(j:Int))=decide (t.k=j):=by
  by_cases hk:t.k=j
  ·simp[hk]
  ·rw[decide_eq_false hk,beq_eq_false_iff_ne];omega
 rwa [e] at this
theorem p75:E 134 [.ref 0 0] (PS4 s ls B k D) (.tuple [N k,N (en ls k)]) (PS4 s ls B k D):=r75
theorem p76(H:Toks s ls m)(h:k<m):E 143 [.ref 0 0] (PS4 s ls B k D) (.str (wAt s ls k).2) (PS4 s ls B (k+1) D):=by
 obtain⟨t,ht⟩:=H.at (Nat.le_of_lt h);have:=H.big;have:=r76 (wr_self _ _) (p47' (B:=B) (D:=D) H (Nat.le_of_lt h) ht) (by omega) (p102' H ht)
 rw[AXU ht];have e:en ls (k+1)=t.e:=tE_eq ht;unfold PS4;rw[e];exact this
theorem rp_snoc(D:List AD)(d:AD):arS ls (D++[d])=[[.arrv D.length 5 (D.map (dgp ls)++[dgp ls d])]]∧∀q,wrP q (D++[d])=.arr q D.length 0 (D.length+1) 5:=by
 cases D with
 |nil=>exact⟨rfl,fun _=>rfl⟩
 |cons e D=>
  refine⟨?_,fun q=>?_⟩
  ·show[[PV.arrv (D++[d]).length 5 ((e::(D++[d])).map (dgp ls))]]=_;simp
  ·show PV.arr q (D++[d]).length 0 ((D++[d]).length+1) 5=_;simp
theorem p53(H:Toks s ls m)(h:k≤m)(hD:∀d∈D,d.i≤m)(hn:D.length<1000000000)(c:Nat)(x:List UInt8):E 63 [.ref 0 0,N c,.str x] (PS4 s ls B k D) (.tuple []) (PS4 s ls B k (rp D c k x)):=by
 obtain⟨t,ht⟩:=H.at h;have h47:=p47' (B:=B) (D:=D) H h ht;have hA:tA ls k=t.a:=tA_eq ht
 have hlast:D.getLast?.map AD.i=some k↔((t.a:Nat):Int)=bfP ls D:=by
  unfold bfP;cases hl:D.getLast? with
  |none=>simp
  |some d=>
   have hdi:=hD d (List.mem_of_getLast? hl);obtain⟨u,hu⟩:=H.at hdi;simp only[Option.map_some,Option.some.injEq];rw[tA_eq hu];refine⟨fun e=>?_,fun e=>?_⟩
   ·subst e;rw[ht] at hu;cases hu;rfl
   ·rcases Nat.lt_trichotomy d.i k with hlt | heq | hgt
    ·have:=(H.inc _ _ _ _ hu ht hlt).1;omega
    ·exact heq
    ·have:=(H.inc _ _ _ _ ht hu hgt).1;omega
 unfold rp;by_cases hc:D.getLast?.map AD.i=some k
 ·rw[if_pos hc];have hb:=hlast.1 hc;cases D with
  |nil=>simp at hc
  |cons d D=>
   have:=r53a_2 (s:=s) (ls:=ls) (k:=k) (l:=en ls k) (B:=B) (g:=D.length) (n:=D.length+1) (Ds:=(d::D).map (dgp ls)) (bf:=bfP ls (d::D)) (c:=c) (tx:=x) (by simp) (by simp[AqC] at hn ⊢;omega) h47 hb
   unfold PS4;rw[hb] at this;exact this
 ·rw[if_neg hc];have hb:((t.a:Nat):Int)≠bfP ls D:=fun e=>hc (hlast.2 e)
  obtain⟨e1,e2⟩:=rp_snoc (ls:=ls) D ⟨c,k,x⟩;have e3:bfP ls (D++[⟨c,k,x⟩])=((t.a:Nat):Int):=by simp[bfP,hA]
  have e4:dgp ls ⟨c,k,x⟩=(.agg [N c,N t.a,N t.e,.str x,.nils]):=by
   show(Dg.mk c (tA ls k) (tE ls k) x).pv=_;rw[hA,tE_eq ht];rfl
  unfold PS4;rw[e1,e2,e3,e4];cases D with
  |nil=>
   have:=r53n_1 (s:=s) (ls:=ls) (k:=k) (l:=en ls k) (T:=B) (bf:=bfP ls []) (c:=c) (tx:=x) (t1:=t) (by simpa [PS4,arS,wrP] using h47) hb
   simpa [PS4,arS,wrP] using this
  |cons d D=>
   exact r53a_1 (s:=s) (ls:=ls) (k:=k) (l:=en ls k) (B:=B) (g:=D.length) (n:=D.length+1) (Ds:=(d::D).map (dgp ls)) (bf:=bfP ls (d::D)) (c:=c) (tx:=x) (by simp) (by simp[AqC] at hn ⊢;omega) h47 hb
end
end Go.Abs.Z

namespace Go.Abs.Z
def Dok(k:Nat)(D:List AD):Prop:=D.Pairwise (fun a b=>a.i<b.i)∧∀d∈D,d.i≤k
theorem Dok.le{k k':Nat}{D:List AD}(h:Dok k D)(hk:k≤k'):Dok k' D:=⟨h.1,fun d hd=>Nat.le_trans (h.2 d hd) hk⟩
theorem Dok.rp{k:Nat}{D:List AD}(h:Dok k D)(c:Nat)(x:List UInt8):Dok k (rp D c k x):=by
 unfold Z.rp;split
 ·exact h
 ·rename_i hl;refine⟨List.pairwise_append.2 ⟨h.1,by simp,fun a ha b hb=>?_⟩,fun d hd=>?_⟩
  ·rw[List.mem_singleton] at hb;subst hb;show a.i<k;rcases Nat.lt_or_ge a.i k with h' | h'
   ·exact h'
   ·exfalso
    have hak:a.i=k:=by have:=h.2 a ha;omega
    apply hl;obtain⟨i,hi⟩:=List.mem_iff_getElem?.1 ha;have hne:D≠[]:=by intro e;subst e;cases ha
    rw[List.getLast?_eq_some_getLast hne,Option.map_some]
    have hm:=List.getLast_mem hne;have h1:=h.2 _ hm;congr 1;have hlt:=(List.getElem?_eq_some_iff.1 hi).1
    by_cases he:i=D.length - 1
    ·rw[List.getLast_eq_getElem hne];have:=(List.getElem?_eq_some_iff.1 hi).2
     subst he;rw[this];exact hak
    ·have hp:=List.pairwise_iff_getElem.1 h.1 i (D.length - 1) hlt (by omega) (by omega)
     rw[(List.getElem?_eq_some_iff.1 hi).2] at hp
     rw[List.getLast_eq_getElem hne];rw[List.getLast_eq_getElem hne] at h1;omega
  ·rcases List.mem_append.1 hd with hd | hd
   ·exact h.2 d hd
   ·rw[List.mem_singleton] at hd;subst hd;exact Nat.le_refl _
theorem pair_len:∀(D:List AD) (a k:Nat),D.Pairwise (fun a b=>a.i<b.i)→(∀d∈D,a≤d.i∧d.i≤k)→a≤k+1→D.length+a≤k+1
 |[],a,k,_,_,h=>by simpa using h
 |d::D,a,k,hp,hb,_=>by
  obtain⟨h1,h2⟩:=hb d (List.mem_cons_self ..);rw[List.pairwise_cons] at hp;have:=pair_len D (d.i+1) k hp.2 (fun e he=>⟨hp.1 e he,(hb e (List.mem_cons_of_mem _ he)).2⟩) (by omega)
  simp only[List.length_cons];omega
theorem Dok.len{k:Nat}{D:List AD}(h:Dok k D):D.length≤k+1:=by
 have:=pair_len D 0 k h.1 (fun d hd=>⟨Nat.zero_le _,h.2 d hd⟩) (by omega)
 omega
section
variable{w:Nat→Wd}{m:Nat}{c:NT→Nat→List AD→Ans3}
def Inv3(m:Nat)(k:Nat)(D:List AD)(r:Rs×Nat×List AD):Prop:=k≤r.2.1∧r.2.1≤m∧Dok r.2.1 r.2.2
def OkI(m:Nat)(c:NT→Nat→List AD→Ans3):Prop:=∀x k D r,c x k D=some r→k≤m→Dok k D→Inv3 m k D r
theorem Aw8(hm:(w m).1=5)(hc:OkI m c):∀(p:Pg) (k:Nat) (D:List AD) (r:Rs×Nat×List AD),runP w c p k D=some r→k≤m→Dok k D→Inv3 m k D r:=by
 intro p
 induction p with
 |ret v=>intro k D r h hk hD;cases h;exact⟨Nat.le_refl _,hk,hD⟩
 |look f ih=>intro k D r h hk hD;exact ih _ _ _ k D r h hk hD
 |read p ih=>
  intro k D r h hk hD;simp only[runP] at h
  split at h
  ·cases h
  ·rename_i h5
   have hlt:k<m:=by
    rcases Nat.lt_or_ge k m with h' | h'
    ·exact h'
    ·have:k=m:=by omega
     subst this;exact absurd hm h5
   obtain⟨h1,h2,h3⟩:=ih (k+1) D r h hlt (hD.le (by omega))
   exact⟨by omega,h2,h3⟩
 |report e t p ih=>
  intro k D r h hk hD;exact ih k (rp D e k t) r h hk (hD.rp e t)
 |call x f ih=>
  intro k D r h hk hD;simp only[runP] at h;obtain⟨⟨v,k1,D1⟩,h1,h2⟩:=Option.bind_eq_some_iff.1 h;obtain⟨a1,a2,a3⟩:=hc x k D _ h1 hk hD;obtain⟨b1,b2,b3⟩:=ih v k1 D1 r h2 a2 a3;exact⟨Nat.le_trans a1 b1,b2,b3⟩
theorem AzK(hm:(w m).1=5):∀n,OkI m (runN w n)
 |0=>fun x k D r h=>by cases h
 |n+1=>fun x k D r h=>Aw8 hm (AzK hm n) (prog x) k D r h
structure G3(w:Nat→Wd)(m:Nat)(c:NT→Nat→List AD→Ans3)(r:Rs×Nat×List AD)(p:Pg)(k:Nat)(D:List AD):Prop where
 run:runP w c p k D=some r
 le:k≤m
 ok:Dok k D
variable{r:Rs×Nat×List AD}{p q:Pg}{k:Nat}{D:List AD}
theorem G3.ifW{ws:List (List UInt8)}(h:G3 w m c r (Pg.ifW ws p q) k D):(ws.contains (w k).2=true∧G3 w m c r p k D)∨(ws.contains (w k).2=false∧G3 w m c r q k D):=by
 have hr:runP w c (if ws.contains (w k).2=true then p else q) k D=some r:=h.run
 cases hb:ws.contains (w k).2 with
 |true=>rw[hb] at hr;exact .inl ⟨rfl,hr,h.le,h.ok⟩
 |false=>rw[hb] at hr;exact .inr ⟨rfl,hr,h.le,h.ok⟩
theorem G3.ifK{j:Nat}(h:G3 w m c r (Pg.ifK j p q) k D):((w k).1=j∧G3 w m c r p k D)∨((w k).1≠j∧G3 w m c r q k D):=by
 have hr:runP w c (if(w k).1=j then p else q) k D=some r:=h.run
 by_cases hb:(w k).1=j
 ·rw[if_pos hb] at hr;exact .inl ⟨hb,hr,h.le,h.ok⟩
 ·rw[if_neg hb] at hr;exact .inr ⟨hb,hr,h.le,h.ok⟩
theorem G3.look{f:Wd→Wd→Nat→Pg}(h:G3 w m c r (.look f) k D):G3 w m c r (f (w k) (w (k+1)) k) k D:=⟨h.run,h.le,h.ok⟩
theorem G3.mrk{g:Nat→Pg}(h:G3 w m c r (Pg.mrk g) k D):G3 w m c r (g k) k D:=⟨h.run,h.le,h.ok⟩
theorem G3.bd{kd f:Nat}{tx:List UInt8}{b:Bool}{ks:List AT}{g:AT→Pg}(h:G3 w m c r (Pg.bd kd tx f b ks g) k D):G3 w m c r (g (.mk kd tx f k b ks)) k D:=⟨h.run,h.le,h.ok⟩
theorem G3.read(hm:(w m).1=5)(h:G3 w m c r (.read p) k D):k<m∧G3 w m c r p (k+1) D:=by
 have hr:=h.run;simp only[runP] at hr
 split at hr
 ·cases hr
 ·rename_i h5
  have hlt:k<m:=by
   rcases Nat.lt_or_ge k m with h' | h'
   ·exact h'
   ·have:k=m:=by have:=h.le;omega
    subst this;exact absurd hm h5
  exact⟨hlt,hr,hlt,h.ok.le (by omega)⟩
theorem G3.rd(hm:(w m).1=5){g:List UInt8→Pg}(h:G3 w m c r (Pg.rd g) k D):k<m∧G3 w m c r (g (w k).2) (k+1) D:=G3.read hm (p:=g (w k).2) ⟨h.run,h.le,h.ok⟩
theorem G3.rep{e:Nat}{t:List UInt8}(h:G3 w m c r (.report e t p) k D):G3 w m c r p k (rp D e k t):=⟨h.run,h.le,h.ok.rp e t⟩
theorem G3.call(hc:OkI m c){x:NT}{f:Rs→Pg}(h:G3 w m c r (.call x f) k D):∃v k1 D1,c x k D=some (v,k1,D1)∧k≤k1∧G3 w m c r (f v) k1 D1:=by
 have hr:=h.run;simp only[runP] at hr;obtain⟨⟨v,k1,D1⟩,h1,h2⟩:=Option.bind_eq_some_iff.1 hr;obtain⟨a1,a2,a3⟩:=hc x k D _ h1 h.le h.ok;exact⟨v,k1,D1,h1,a1,h2,a2,a3⟩
theorem G3.cl(hc:OkI m c){x:NT}{g:AT→Pg}(h:G3 w m c r (Pg.cl x g) k D):∃v k1 D1,c x k D=some (v,k1,D1)∧k≤k1∧G3 w m c r (g v.1) k1 D1:=G3.call hc (f:=fun v=>g v.1) ⟨h.run,h.le,h.ok⟩
theorem G3.lst{x:NT}(h:G3 w m c r (Pg.lst x) k D):c x k D=some r:=by
 have hr:(c x k D).bind (fun r=>some (r.1,r.2.1,r.2.2))=some r:=h.run
 obtain⟨v,h1,h2⟩:=Option.bind_eq_some_iff.1 hr;cases h2;exact h1
theorem G3.ret{v:Rs}(h:G3 w m c r (.ret v) k D):r=(v,k,D):=by
 have:=h.run;cases this;rfl
end
end Go.Abs.Z

namespace Go.Abs.Z
def AT.fst:AT→Nat
 |.mk _ _ f _ _ _=>f
def AT.lst:AT→Nat
 |.mk _ _ _ k _ _=>k
mutual

def AT.ok:AT→Prop
 |.mk _ _ f k _ ks=>f≤k∧ks.length<1000000000∧oks f k ks
def oks:Nat→Nat→List AT→Prop
 |lo,hi,[]=>lo≤hi
 |lo,hi,x::xs=>lo≤x.fst∧x.ok∧oks x.lst hi xs
end
theorem AT.ok.le:∀{x:AT},x.ok→x.fst≤x.lst
 |.mk _ _ _ _ _ _,h=>h.1
theorem oks.le:∀{xs:List AT} {lo hi:Nat},oks lo hi xs→lo≤hi
 |[],_,_,h=>h
 |x::xs,lo,hi,h=>by
  obtain⟨h1,h2,h3⟩:=h;have:=h2.le;have:=oks.le h3;omega
theorem oks.up:∀{xs:List AT} {lo hi hi':Nat},oks lo hi xs→hi≤hi'→oks lo hi' xs
 |[],_,_,_,h,h'=>Nat.le_trans h h'
 |x::xs,lo,hi,hi',h,h'=>⟨h.1,h.2.1,oks.up h.2.2 h'⟩
theorem oks.down:∀{xs:List AT} {lo lo' hi:Nat},oks lo hi xs→lo'≤lo→oks lo' hi xs
 |[],_,_,_,h,h'=>Nat.le_trans h' h
 |x::xs,lo,lo',hi,h,h'=>⟨Nat.le_trans h' h.1,h.2.1,h.2.2⟩
theorem oks.snoc:∀{xs:List AT} {lo hi hi':Nat} {x:AT},oks lo hi xs→hi≤x.fst→x.ok→x.lst≤hi'→oks lo hi' (xs++[x])
 |[],_,_,_,_,h,h1,h2,h3=>⟨Nat.le_trans h h1,h2,h3⟩
 |y::xs,lo,hi,hi',x,h,h1,h2,h3=>⟨h.1,h.2.1,oks.snoc h.2.2 h1 h2 h3⟩
def In(lo hi:Nat)(x:AT):Prop:=lo≤x.fst∧x.ok∧x.lst≤hi
theorem In.oks1{lo hi:Nat}{x:AT}(h:In lo hi x):oks lo hi [x]:=⟨h.1,h.2.1,h.2.2⟩
theorem In.up{lo hi hi':Nat}{x:AT}(h:In lo hi x)(h':hi≤hi'):In lo hi' x:=⟨h.1,h.2.1,Nat.le_trans h.2.2 h'⟩
theorem In.down{lo lo' hi:Nat}{x:AT}(h:In lo hi x)(h':lo'≤lo):In lo' hi x:=⟨Nat.le_trans h' h.1,h.2.1,h.2.2⟩
theorem in_mk{f k:Nat}{kd:Nat}{tx:List UInt8}{b:Bool}{ks:List AT}(h:oks f k ks)(hl:ks.length<1000000000):In f k (.mk kd tx f k b ks):=⟨Nat.le_refl _,⟨h.le,hl,h⟩,Nat.le_refl _⟩
theorem in0{f k:Nat}{kd:Nat}{tx:List UInt8}{b:Bool}(h:f≤k):In f k (.mk kd tx f k b []):=in_mk h (by decide)
theorem AxP{lo mid hi:Nat}{x:AT}{xs:List AT}(h:In lo mid x)(h':oks mid hi xs):oks lo hi (x::xs):=⟨h.1,h.2.1,h'.down h.2.2⟩
section
variable{w:Nat→Wd}{m n:Nat}{k f:Nat}{D:List AD}{c:NT→Nat→List AD→Ans3}{r:Rs×Nat×List AD}{p q:Pg}
def EI(n:Nat):NT→Nat→Rs→Nat→Prop
 |.ex _,k,v,k1=>In k k1 v.1
 |.lp _ f x,k,v,k1=>In f k x→In f k1 v.1
 |.tl _ acc,k,v,k1=>acc.length+n<1000000000→v.2.length<1000000000∧∀lo,oks lo k acc→oks lo k1 v.2
 |.sts acc,k,v,k1=>acc.length+n<1000000000→v.2.length<1000000000∧∀lo,oks lo k acc→oks lo k1 v.2
 |.pg acc,k,v,k1=>acc.length+n<1000000000→v.2.length<1000000000∧∀lo,oks lo k acc→oks lo k1 v.2
 |.bk,k,v,k1=>In k k1 v.1
 |.st,k,v,k1=>In k k1 v.1
 |.br,k,v,k1=>In k k1 v.1
 |.sk _,_,_,_=>True
 |.sp,_,_,_=>True
def OkII(m n:Nat)(c:NT→Nat→List AD→Ans3):Prop:=OkI m c∧∀x k D v k1 D1,c x k D=some (v,k1,D1)→k≤m→Dok k D→EI n x k v k1
theorem iac(hm:(w m).1=5)(x:List UInt8)(h:G3 w m c r (Pg.ifW [x] (.read p) q) k D):G3 w m c r p (k+1) D∨G3 w m c r q k D:=by
 rcases h.ifW with⟨_,h⟩ | ⟨_,h⟩
 ·exact .inl (h.read hm).2
 ·exact .inr h
theorem ixp(hm:(w m).1=5)(x:List UInt8)(h:G3 w m c r (Pg.xp x p) k D):∃k1 D1,k≤k1∧G3 w m c r p k1 D1:=by
 rcases iac hm x h with h | h
 ·exact⟨_,_,by omega,h⟩
 ·exact⟨_,_,Nat.le_refl _,h.rep⟩
theorem inm(hm:(w m).1=5){g:List UInt8→Pg}(h:G3 w m c r (Pg.nm g) k D):∃x k1 D1,k≤k1∧G3 w m c r (g x) k1 D1:=by
 rcases h.ifK with⟨_,h⟩ | ⟨_,h⟩
 ·exact⟨_,_,_,by omega,(h.rd hm).2⟩
 ·exact⟨_,_,_,Nat.le_refl _,h.rep⟩
theorem inum(hm:(w m).1=5){g:List UInt8→Pg}(h:G3 w m c r (Pg.num g) k D):∃x k1 D1,k≤k1∧G3 w m c r (g x) k1 D1:=by
 rcases h.ifK with⟨_,h⟩ | ⟨_,h⟩
 ·exact⟨_,_,_,by omega,(h.rd hm).2⟩
 ·exact⟨_,_,_,Nat.le_refl _,h.rep⟩
theorem inop{g:AT→Pg}(h:G3 w m c r (Pg.nop g) k D):∃x,In k k x∧G3 w m c r (g x) k D:=⟨_,in0 (Nat.le_refl _),h.mrk.bd⟩
theorem imiss{g:AT→Pg}(h:G3 w m c r (Pg.miss g) k D):∃x,In k k x∧G3 w m c r (g x) k D:=⟨_,in0 (Nat.le_refl _),h.mrk.bd⟩
theorem iwr(hm:(w m).1=5){g:AT→Pg}(h:G3 w m c r (written g) k D):∃x k1 D1,k≤k1∧In k k1 x∧G3 w m c r (g x) k1 D1:=by
 rcases iac hm [58] h with h | h
 ·have h:=h.mrk;rcases iac hm wInt h with h | h
  ·rcases iac hm [91] h with h | h
   ·obtain⟨x,k1,D1,l1,h⟩:=inum hm h;obtain⟨k2,D2,l2,h⟩:=ixp hm [93] h;exact⟨_,_,_,by omega,(in0 (f:=k+1) (k:=k2) (by omega)).down (by omega),h.bd⟩
   ·exact⟨_,_,_,by omega,(in0 (f:=k+1) (by omega)).down (by omega),h.bd⟩
  ·rcases iac hm wBool h with h | h
   ·exact⟨_,_,_,by omega,(in0 (f:=k+1) (by omega)).down (by omega),h.bd⟩
   ·rcases h.ifK with⟨_,h⟩ | ⟨_,h⟩
    ·exact⟨_,_,_,by omega,(in0 (f:=k+1) (k:=k+1+1) (by omega)).down (by omega),(h.rd hm).2.bd⟩
    ·obtain⟨x,i1,h⟩:=imiss h.rep;exact⟨_,_,_,by omega,i1.down (by omega),h⟩
 ·obtain⟨x,i1,h⟩:=inop h;exact⟨_,_,_,Nat.le_refl _,i1,h⟩
theorem ifield(hm:(w m).1=5){g:AT→Pg}(h:G3 w m c r (fieldP g) k D):∃x k1 D1,k≤k1∧In k k1 x∧G3 w m c r (g x) k1 D1:=by
 obtain⟨x,k1,D1,l1,h⟩:=inm hm h.mrk;obtain⟨k2,D2,l2,h⟩:=ixp hm [58] h;rcases h.ifW with⟨_,h⟩ | ⟨_,h⟩
 ·have h:=(h.mrk.rd hm).2;exact⟨_,_,_,by omega,in_mk (((in0 (f:=k2) (k:=k2+1) (by omega)).down (by omega)).oks1) (by simp),h.bd.bd⟩
 ·obtain⟨y,i1,h⟩:=imiss h.rep;exact⟨_,_,_,by omega,in_mk ((i1.down (by omega)).oks1) (by simp),h.bd⟩
theorem iparam(hm:(w m).1=5){g:AT→Pg}(h:G3 w m c r (AJT g) k D):∃x k1 D1,k≤k1∧In k k1 x∧G3 w m c r (g x) k1 D1:=by
 rcases iac hm wVar h.mrk with h | h
 ·obtain⟨x,k1,D1,l1,h⟩:=inm hm h;obtain⟨t,k2,D2,l2,i2,h⟩:=iwr hm h;exact⟨_,_,_,by omega,in_mk ((i2.down (by omega)).oks1) (by simp),h.bd⟩
 ·obtain⟨x,k1,D1,l1,h⟩:=inm hm h;obtain⟨t,k2,D2,l2,i2,h⟩:=iwr hm h;exact⟨_,_,_,by omega,in_mk ((i2.down (by omega)).oks1) (by simp),h.bd⟩
theorem ivar(hm:(w m).1=5){g:AT→Pg}(h:G3 w m c r (Aj4 g) k D):∃x k1 D1,k≤k1∧In k k1 x∧G3 w m c r (g x) k1 D1:=by
 obtain⟨x,k1,D1,l1,h⟩:=inm hm h.mrk;exact⟨_,_,_,by omega,in0 (by omega),h.bd⟩
theorem iex(hc:OkII m n c){L:Nat}{g:AT→Pg}(h:G3 w m c r (Pg.cl (.ex L) g) k D):∃x k1 D1,k≤k1∧In k k1 x∧G3 w m c r (g x) k1 D1:=by
 obtain⟨v,k1,D1,h1,h2,h3⟩:=h.cl hc.1;exact⟨v.1,k1,D1,h2,hc.2 _ _ _ _ _ _ h1 h.le h.ok,h3⟩
theorem ibk(hc:OkII m n c){g:AT→Pg}(h:G3 w m c r (Pg.cl .bk g) k D):∃x k1 D1,k≤k1∧In k k1 x∧G3 w m c r (g x) k1 D1:=by
 obtain⟨v,k1,D1,h1,h2,h3⟩:=h.cl hc.1;exact⟨v.1,k1,D1,h2,hc.2 _ _ _ _ _ _ h1 h.le h.ok,h3⟩
theorem ielem(hm:(w m).1=5)(hc:OkII m n c)(e:El){g:AT→Pg}(h:G3 w m c r (elemP e g) k D):∃x k1 D1,k≤k1∧In k k1 x∧G3 w m c r (g x) k1 D1:=by
 cases e with
 |fd=>exact ifield hm h
 |pa=>exact iparam hm h
 |ex=>exact iex hc h
theorem ilist(hm:(w m).1=5)(hc:OkII m n c)(hn:n<900000000)(e:El){g:List AT→Pg}(h:G3 w m c r (listP e g) k D):∃l k1 D1,k≤k1∧oks k k1 l∧l.length<1000000000∧G3 w m c r (g l) k1 D1:=by
 obtain⟨x,k1,D1,l1,i1,h⟩:=ielem hm hc e h;obtain⟨v,k2,D2,h1,l2,h3⟩:=h.call hc.1;obtain⟨b1,b2⟩:=hc.2 _ _ _ _ _ _ h1 h.le h.ok (by simp;omega)
 exact⟨v.2,k2,D2,by omega,b2 k i1.oks1,b1,h3⟩
theorem iargs(hm:(w m).1=5)(hc:OkII m n c)(hn:n<900000000){g:List AT→Pg}(h:G3 w m c r (argsP g) k D):∃l k1 D1,k≤k1∧oks k k1 l∧l.length<1000000000∧G3 w m c r (g l) k1 D1:=by
 have h:=(h.read hm).2;rcases h.ifW with⟨_,h⟩ | ⟨_,h⟩
 ·obtain⟨k2,D2,l2,h⟩:=ixp hm [41] h;exact⟨[],k2,D2,by omega,show k≤k2 by omega,by decide,h⟩
 ·obtain⟨l,k2,D2,l2,i2,hl,h⟩:=ilist hm hc hn .ex h;obtain⟨k3,D3,l3,h⟩:=ixp hm [41] h;exact⟨l,k3,D3,by omega,(i2.down (by omega)).up l3,hl,h⟩
theorem iplace(hm:(w m).1=5)(hc:OkII m n c){g:AT→Pg}(h:G3 w m c r (AX3 g) k D):∃x k1 D1,k≤k1∧In k k1 x∧G3 w m c r (g x) k1 D1:=by
 obtain⟨v,k1,D1,l1,i1,h⟩:=ivar hm h.mrk;rcases iac hm [91] h with h | h
 ·obtain⟨y,k2,D2,l2,i2,h⟩:=iex hc h;obtain⟨k3,D3,l3,h⟩:=ixp hm [93] h;exact⟨_,_,_,by omega,in_mk (AxP i1 (((i2.down (by omega)).up l3).oks1)) (by simp),h.bd⟩
 ·rcases iac hm [46] h with h | h
  ·obtain⟨x,k2,D2,l2,h⟩:=inm hm h;exact⟨_,_,_,by omega,in_mk ((i1.up (by omega)).oks1) (by simp),h.bd⟩
  ·exact⟨_,_,_,l1,i1,h⟩
theorem irecord(hm:(w m).1=5)(hc:OkII m n c)(hn:n<900000000){g:AT→Pg}(h:G3 w m c r (AZ6 g) k D):∃x k1 D1,k≤k1∧In k k1 x∧G3 w m c r (g x) k1 D1:=by
 have h:=(h.mrk.read hm).2;obtain⟨x,k1,D1,l1,h⟩:=inm hm h;obtain⟨k2,D2,l2,h⟩:=ixp hm [123] h;obtain⟨l,k3,D3,l3,i3,hl,h⟩:=ilist hm hc hn .fd h;obtain⟨k4,D4,l4,h⟩:=ixp hm [125] h;exact⟨_,_,_,by omega,in_mk ((i3.down (by omega)).up l4) hl,h.bd⟩
theorem iparams(hm:(w m).1=5)(hc:OkII m n c)(hn:n<900000000){g:AT→Pg}(h:G3 w m c r (AZ9 g) k D):∃x k1 D1,k≤k1∧In k k1 x∧G3 w m c r (g x) k1 D1:=by
 obtain⟨k1,D1,l1,h⟩:=ixp hm [40] h.mrk;rcases h.ifW with⟨_,h⟩ | ⟨_,h⟩
 ·obtain⟨k2,D2,l2,h⟩:=ixp hm [41] h;exact⟨_,_,_,by omega,in0 (by omega),h.bd⟩
 ·obtain⟨l,k2,D2,l2,i2,hl,h⟩:=ilist hm hc hn .pa h;obtain⟨k3,D3,l3,h⟩:=ixp hm [41] h;exact⟨_,_,_,by omega,in_mk ((i2.down (by omega)).up l3) hl,h.bd⟩
theorem iproc(hm:(w m).1=5)(hc:OkII m n c)(hn:n<900000000){g:AT→Pg}(h:G3 w m c r (procP g) k D):∃x k1 D1,k≤k1∧In k k1 x∧G3 w m c r (g x) k1 D1:=by
 have h:=(h.mrk.read hm).2;obtain⟨x,k1,D1,l1,h⟩:=inm hm h;obtain⟨a,k2,D2,l2,i2,h⟩:=iparams hm hc hn h;obtain⟨t,k3,D3,l3,i3,h⟩:=iwr hm h;obtain⟨b,k4,D4,l4,i4,h⟩:=ibk hc h;exact⟨_,_,_,by omega,in_mk (AxP (i2.down (by omega)) (AxP i3 i4.oks1)) (by simp),h.bd⟩
theorem inod{kd:Nat}{tx:List UInt8}{us:List AT}(h:G3 w m c r (Pg.nod kd tx f us) k D)(hu:oks f k us)(hl:us.length<1000000000):In f r.2.1 r.1.1:=by
 have e:=h.bd.ret;rw[e];exact in_mk hu hl
theorem ilv4(hm:(w m).1=5)(hc:OkII m n c)(h:G3 w m c r lv4P k D):In k r.2.1 r.1.1:=by
 obtain⟨x,k1,D1,l1,i1,h⟩:=iex hc h.mrk;rcases h.ifW with⟨_,h⟩ | ⟨_,h⟩
 ·have h:=(h.rd hm).2;obtain⟨y,k2,D2,l2,i2,h⟩:=iex hc h;exact inod h (AxP i1 ((i2.down (by omega)).oks1)) (by simp)
 ·have e:=h.ret;rw[e];exact i1
theorem iprim(hm:(w m).1=5)(hc:OkII m n c)(hn:n<900000000)(h:G3 w m c r primP k D):In k r.2.1 r.1.1:=by
 rcases h.mrk.ifK with⟨_,h⟩ | ⟨_,h⟩
 ·exact inod (h.rd hm).2 (show k≤k+1 by omega) (by simp)
 rcases h.ifW with⟨_,h⟩ | ⟨_,h⟩
 ·exact inod (h.rd hm).2 (show k≤k+1 by omega) (by simp)
 have h:=h.look;by_cases hk0:(w k).1=0
 ·by_cases hp:(w (k+1)).2=[40]
  ·rw[if_pos ⟨hk0,hp⟩] at h;obtain⟨l,k3,D3,l3,i3,hl,h⟩:=iargs hm hc hn (h.rd hm).2;exact inod h (i3.down (by omega)) hl
  ·rw[if_neg (fun x=>hp x.2),if_pos hk0] at h
   obtain⟨x,k3,D3,l3,i3,h⟩:=iplace hm hc h;have e:=h.ret;rw[e];exact i3
 ·rw[if_neg (fun x=>hk0 x.1),if_neg hk0] at h
  rcases iac hm [91] h with h | h
  ·obtain⟨l,k3,D3,l3,i3,hl,h⟩:=ilist hm hc hn .ex h;obtain⟨k4,D4,l4,h⟩:=ixp hm [93] h;exact inod h ((i3.down (by omega)).up l4) hl
  ·rcases iac hm wLen h with h | h
   ·obtain⟨k3,D3,l3,h⟩:=ixp hm [40] h;obtain⟨v,k4,D4,l4,i4,h⟩:=ivar hm h;obtain⟨k5,D5,l5,h⟩:=ixp hm [41] h;exact inod h (((i4.down (by omega)).up l5).oks1) (by simp)
   ·rcases iac hm [40] h with h | h
    ·obtain⟨x,k3,D3,l3,i3,h⟩:=iex hc h;obtain⟨k4,D4,l4,h⟩:=ixp hm [41] h;have e:=h.ret;rw[e];exact(i3.down (by omega)).up l4
    ·obtain⟨x,i3,h⟩:=imiss h.rep;have e:=h.ret;rw[e];exact i3
theorem ist(hm:(w m).1=5)(hc:OkII m n c)(hn:n<900000000)(h:G3 w m c r (prog .st) k D):In k r.2.1 r.1.1:=by
 rcases h.ifW with⟨_,h⟩ | ⟨_,h⟩
 ·have h:=(h.mrk.read hm).2;obtain⟨x,k1,D1,l1,h⟩:=inm hm h;obtain⟨t,k2,D2,l2,i2,h⟩:=iwr hm h;obtain⟨k3,D3,l3,h⟩:=ixp hm [61] h;obtain⟨v,k4,D4,l4,i4,h⟩:=iex hc h;obtain⟨k5,D5,l5,h⟩:=ixp hm [59] h;exact inod h (AxP (i2.down (by omega)) (((i4.down (by omega)).up l5).oks1)) (by simp)
 rcases h.ifW with⟨_,h⟩ | ⟨_,h⟩
 ·exact hc.2 _ _ _ _ _ _ h.lst h.le h.ok
 rcases h.ifW with⟨_,h⟩ | ⟨_,h⟩
 ·have h:=(h.mrk.read hm).2;obtain⟨u,k1,D1,l1,i1,h⟩:=iex hc h;obtain⟨b,k2,D2,l2,i2,h⟩:=ibk hc h;exact inod h (AxP (i1.down (by omega)) i2.oks1) (by simp)
 rcases h.ifW with⟨_,h⟩ | ⟨_,h⟩
 ·have h:=(h.mrk.read hm).2;obtain⟨x,k1,D1,l1,h⟩:=inm hm h;obtain⟨k2,D2,l2,h⟩:=ixp hm [61] h;obtain⟨u,k3,D3,l3,i3,h⟩:=iex hc h;obtain⟨k4,D4,l4,h⟩:=ixp hm wTo h;obtain⟨v,k5,D5,l5,i5,h⟩:=iex hc h;obtain⟨b,k6,D6,l6,i6,h⟩:=ibk hc h;exact inod h (AxP ((i3.down (by omega)).up l4) (AxP i5 i6.oks1)) (by simp)
 rcases h.ifW with⟨_,h⟩ | ⟨_,h⟩
 ·have h:=(h.mrk.read hm).2.look;cases hb:begE (w (k+1)) with
  |true=>
   rw[hb,if_pos rfl] at h;obtain⟨x,k2,D2,l2,i2,h⟩:=iex hc h;obtain⟨k3,D3,l3,h⟩:=ixp hm [59] h;exact inod h (((i2.down (by omega)).up l3).oks1) (by simp)
  |false=>
   rw[hb,if_neg (by simp)] at h
   obtain⟨x,i2,h⟩:=inop h;obtain⟨k3,D3,l3,h⟩:=ixp hm [59] h;exact inod h (((i2.down (by omega)).up l3).oks1) (by simp)
 rcases h.ifW with⟨_,h⟩ | ⟨_,h⟩
 ·have h:=(h.mrk.read hm).2;obtain⟨x,k2,D2,l2,i2,h⟩:=iex hc h;obtain⟨k3,D3,l3,h⟩:=ixp hm [59] h;exact inod h (((i2.down (by omega)).up l3).oks1) (by simp)
 rcases h.ifK with⟨_,h⟩ | ⟨_,h⟩
 ·have h:=h.mrk.look;by_cases hp:(w (k+1)).2=[40]
  ·rw[if_pos hp] at h;obtain⟨l,k3,D3,l3,i3,hl,h⟩:=iargs hm hc hn (h.rd hm).2;obtain⟨k4,D4,l4,h⟩:=ixp hm [59] h;exact inod h ((i3.down (by omega)).up l4) hl
  ·rw[if_neg hp] at h;obtain⟨x,k2,D2,l2,i2,h⟩:=iplace hm hc h;obtain⟨k3,D3,l3,h⟩:=ixp hm [61] h;obtain⟨v,k4,D4,l4,i4,h⟩:=iex hc h;obtain⟨k5,D5,l5,h⟩:=ixp hm [59] h;exact inod h (AxP i2 (((i4.down (by omega)).up l5).oks1)) (by simp)
 obtain⟨v,k1,D1,h1,l1,h2⟩:=h.rep.mrk.call hc.1;exact inod h2 (show k≤k1 by omega) (by simp)
theorem ok_in(hm:(w m).1=5):∀n,n<900000000→OkII m n (runN w n)
 |0,_=>⟨AzK hm 0,fun x k D v k1 D1 h=>by cases h⟩
 |n+1,hn=>by
  have hc:=ok_in hm n (by omega)
  refine⟨AzK hm (n+1),fun x k D v k1 D1 hrun hk hD=>?_⟩
  have h:G3 w m (runN w n) (v,k1,D1) (prog x) k D:=⟨hrun,hk,hD⟩;have hkk:k≤k1:=(AzK hm (n+1) x k D _ hrun hk hD).1;clear hrun;have hn':n<900000000:=by omega
  cases x with
  |ex L=>
   show In k k1 v.1
   have low:∀L,G3 w m (runN w n) (v,k1,D1) (Pg.mrk fun f=>Pg.cl (.ex (L+1)) fun x=>Pg.lst (.lp L f x)) k D→In k k1 v.1:=by
    intro L h;obtain⟨x,k2,D2,l2,i2,h⟩:=iex hc h.mrk;exact hc.2 _ _ _ _ _ _ h.lst h.le h.ok i2
   by_cases h3:L=3
   ·subst h3;rcases iac hm wNot h.mrk with h | h
    ·obtain⟨x,k2,D2,l2,i2,h⟩:=iex hc h;exact inod h ((i2.down (by omega)).oks1) (by simp)
    ·exact ilv4 hm hc h
   ·by_cases h7:L=7
    ·subst h7;rcases iac hm [45] h.mrk with h | h
     ·obtain⟨x,k2,D2,l2,i2,h⟩:=iex hc h;exact inod h ((i2.down (by omega)).oks1) (by simp)
     ·exact iprim hm hc hn' h
    ·have e:prog (.ex L)=Pg.mrk fun f=>Pg.cl (.ex (L+1)) fun x=>Pg.lst (.lp L f x):=by
      rw[prog]
      ·exact fun h=>h3 h
      ·exact fun h=>h7 h
     rw[e] at h;exact low L h
  |lp L f x=>
   intro hx;rcases G3.ifW (show G3 w m (runN w n) (v,k1,D1) (Pg.ifW (opL L) (Pg.rd fun o=>Pg.cl (.ex (L+1)) fun y=>Pg.bd 29 o f false [x,y] fun z=>Pg.lst (.lp L f z)) (.ret (x,[]))) k D from h) with⟨_,h⟩ | ⟨_,h⟩
   ·have h:=(h.rd hm).2;obtain⟨y,k2,D2,l2,i2,h⟩:=iex hc h;have h:=h.bd;exact hc.2 _ _ _ _ _ _ h.lst h.le h.ok (in_mk (AxP hx ((i2.down (by omega)).oks1)) (by simp))
   ·have e:=h.ret;cases e;exact hx
  |tl e acc=>
   intro hl;rcases iac hm [44] h with h | h
   ·obtain⟨x,k2,D2,l2,i2,h⟩:=ielem hm hc e h;obtain⟨b1,b2⟩:=hc.2 _ _ _ _ _ _ h.lst h.le h.ok (by simp;omega)
    exact⟨b1,fun lo ha=>b2 lo (ha.snoc (by have:=i2.1;omega) i2.2.1 i2.2.2)⟩
   ·have e:=h.ret;cases e;exact⟨show acc.length<1000000000 by omega,fun lo ha=>ha⟩
  |bk=>
   show In k k1 v.1;rcases iac hm [123] h.mrk with h | h
   ·obtain⟨u,k2,D2,h1,l2,h2⟩:=h.call hc.1;obtain⟨b1,b2⟩:=hc.2 _ _ _ _ _ _ h1 h.le h.ok (by simp;omega)
    obtain⟨k3,D3,l3,h⟩:=ixp hm [125] h2;exact inod h ((b2 k (show k≤k+1 by omega)).up l3) b1
   ·have e:=h.rep.bd.ret;cases e;exact in0 (Nat.le_refl _)
  |sts acc=>
   intro hl;rcases h.ifW with⟨_,h⟩ | ⟨_,h⟩
   ·have e:=h.ret;cases e;exact⟨show acc.length<1000000000 by omega,fun lo ha=>ha⟩
   ·rcases h.ifK with⟨_,h⟩ | ⟨_,h⟩
    ·have e:=h.ret;cases e;exact⟨show acc.length<1000000000 by omega,fun lo ha=>ha⟩
    ·obtain⟨u,k2,D2,h1,l2,h⟩:=h.cl hc.1;have i2:In k k2 u.1:=hc.2 _ _ _ _ _ _ h1 hk hD;obtain⟨b1,b2⟩:=hc.2 _ _ _ _ _ _ h.lst h.le h.ok (by simp;omega)
     exact⟨b1,fun lo ha=>b2 lo (ha.snoc i2.1 i2.2.1 i2.2.2)⟩
  |st=>exact ist hm hc hn' h
  |br=>
   show In k k1 v.1;have h:=(h.mrk.read hm).2;obtain⟨u,k2,D2,l2,i2,h⟩:=iex hc h;obtain⟨b,k3,D3,l3,i3,h⟩:=ibk hc h;rcases iac hm wElse h with h | h
   ·rcases h.ifW with⟨_,h⟩ | ⟨_,h⟩
    ·obtain⟨o,k5,D5,h1,l5,h5⟩:=h.cl hc.1;have i5:In (k3+1) k5 o.1:=hc.2 _ _ _ _ _ _ h1 h.le h.ok;exact inod h5 (AxP (i2.down (by omega)) (AxP i3 ((i5.down (by omega)).oks1))) (by simp)
    ·obtain⟨o,k5,D5,l5,i5,h⟩:=ibk hc h;exact inod h (AxP (i2.down (by omega)) (AxP i3 ((i5.down (by omega)).oks1))) (by simp)
   ·obtain⟨o,i5,h⟩:=inop h;exact inod h (AxP (i2.down (by omega)) (AxP i3 i5.oks1)) (by simp)
  |sk f=>trivial
  |sp=>trivial
  |pg acc=>
   intro hl;rcases h.ifK with⟨_,h⟩ | ⟨_,h⟩
   ·have e:=h.ret;cases e;exact⟨show acc.length<1000000000 by omega,fun lo ha=>ha⟩
   ·rcases h.ifW with⟨_,h⟩ | ⟨_,h⟩
    ·obtain⟨x,k2,D2,l2,i2,h⟩:=irecord hm hc hn' h;obtain⟨b1,b2⟩:=hc.2 _ _ _ _ _ _ h.lst h.le h.ok (by simp;omega)
     exact⟨b1,fun lo ha=>b2 lo (ha.snoc i2.1 i2.2.1 i2.2.2)⟩
    ·rcases h.ifW with⟨_,h⟩ | ⟨_,h⟩
     ·obtain⟨x,k2,D2,l2,i2,h⟩:=iproc hm hc hn' h;obtain⟨b1,b2⟩:=hc.2 _ _ _ _ _ _ h.lst h.le h.ok (by simp;omega)
      exact⟨b1,fun lo ha=>b2 lo (ha.snoc i2.1 i2.2.1 i2.2.2)⟩
     ·have h:=(h.rep.mrk.read hm).2;obtain⟨u,k2,D2,h1,l2,h2⟩:=h.call hc.1;have h3:=h2.bd;have i2:In k k2 (.mk 1 [] k k2 false []):=in0 (by omega)
      obtain⟨b1,b2⟩:=hc.2 _ _ _ _ _ _ h3.lst h3.le h3.ok (by simp;omega)
      exact⟨b1,fun lo ha=>b2 lo (ha.snoc i2.1 i2.2.1 i2.2.2)⟩
end
end Go.Abs.Z

namespace Go.Abs.Z
open Go.Proofs Go.RowKit
def by8(b:UInt8):PV:=.int .u8 ((b.toNat:Nat):Int)
def symL:List UInt8:=[60,62,61,43,45,42,47,37,40,41,123,125,91,93,44,59,58,46]
def kwL:List (List UInt8):=[wRec,wProc,wVar,wIf,wElse,AXT,wFor,wTo,AzU,AkM,wAnd,wOr,wNot,wTrue,AJJ,wInt,wBool,wLen]
def kwMap:PV:=.mapv (kwL.map Ky.s) (kwL.map fun _=>.bool true)
theorem R153:Rn 144 a144:=fun _ _ _=>rfl
theorem e153:E 144 [] [] kwMap []:=rule R153 []
theorem len_bys(o:Bool)(s:Nat)(x:List UInt8):semP (.len false) [.slice o s (x.map by8)]=some [some (.int .i64 (x.length:Nat))]:=by
 show some [some (PV.int .i64 ((x.map by8).length:Nat))]=_;rw[List.length_map]
theorem idx_bys{o:Bool}{s:Nat}{x:List UInt8}{c:UInt8}(j:Nat)(h:x[j]?=some c):semP (.idx s) [.slice o s (x.map by8),.int .i64 (j:Nat)]=some [some (.vptr (.int .u8 ((c.toNat:Nat):Int)))]:=p_idx _ _ _ _ _ (by rw[List.getElem?_map,h];rfl)
def whB(c:UInt8):Bool:=c==9||c==10||c==13||c==32
def leB(c:UInt8):Bool:=decide (97≤c.toNat)&&decide (c.toNat≤122)
def diB(c:UInt8):Bool:=decide (48≤c.toNat)&&decide (c.toNat≤57)
def woB(c:UInt8):Bool:=leB c||diB c||c==95
def skN:Bool→List UInt8→Nat
 |_,[]=>0
 |true,c::l=>if c=10 then 1+skN false l else 1+skN true l
 |false,c::l=>if whB c then 1+skN false l else if c=35 then 1+skN true l else 0
def runL(p:UInt8→Bool)(l:List UInt8):Nat:=(l.takeWhile p).length
def symN:List UInt8→Nat
 |[]=>0
 |a::l=>if l.head?=some 61∧(a=61∨a=33∨a=60∨a=62) then 2 else if symL.contains a then 1 else 0
def stopB(c:UInt8)(l:List UInt8):Bool:=whB c||c==35||leB c||diB c||symN (c::l) != 0
def wrN:List UInt8→Nat
 |[]=>0
 |c::l=>if stopB c l then 0 else 1+wrN l
def tokN(l:List UInt8):Nat×Nat:=
 if leB (l.headD 0) then(if kwL.contains (l.take (runL woB l)) then 1 else 0,runL woB l)
 else if diB (l.headD 0) then(2,runL diB l)
 else if 0<symN l then(3,symN l) else(4,1+wrN l.tail)
def scanF:Nat→List UInt8→Nat→List Tk
 |0,_,_=>[]
 |n+1,l,f=>
  let k:=skN false l
  let r:=l.drop k
  if r=[] then[⟨5,f,f+k,f+k⟩] else⟨(tokN r).1,f,f+k,f+k+(tokN r).2⟩::scanF n (r.drop (tokN r).2) (f+k+(tokN r).2)
def scanT(s:List UInt8):List Tk:=scanF (s.length+1) s 0
end Go.Abs.Z

namespace Go.Abs.Z
open Go.Proofs Go.RowKit
variable{c c2 c4 c3 c1:UInt8}{s s1 w:List UInt8}{i m1 m2:Nat}{g:FuncId}{e:AExit}{ff':FF}{σ':Sto}{z1:Int}{es1:List PV}
theorem R143:Rn 66 a66:=fun _ _ _=>rfl
theorem r143_1(c1:((c.toNat:Nat):Int)=9):E 66 [(.int .u8 ((c.toNat:Nat):Int))] [] (.bool true) []:=
 rule R143 [st 2 (P (AqR .u8 c1))]
theorem r143_2(c1:((c.toNat:Nat):Int)≠9)(c2:((c.toNat:Nat):Int)=10):E 66 [(.int .u8 ((c.toNat:Nat):Int))] [] (.bool true) []:=
 rule R143 [st 2 (P (AqB .u8 c1)),sg 2 (P (AqR .u8 c2))]
theorem r143_3(c1:((c.toNat:Nat):Int)≠9)(c2:((c.toNat:Nat):Int)≠10)(c3:((c.toNat:Nat):Int)=13):E 66 [(.int .u8 ((c.toNat:Nat):Int))] [] (.bool true) []:=
 rule R143 [st 2 (P (AqB .u8 c1)),sg 2 (P (AqB .u8 c2)),sg 3 (P (AqR .u8 c3))]
theorem r143_4(c1:((c.toNat:Nat):Int)≠9)(c2:((c.toNat:Nat):Int)≠10)(c3:((c.toNat:Nat):Int)≠13):E 66 [(.int .u8 ((c.toNat:Nat):Int))] [] (.bool (((c.toNat:Nat):Int)==32)) []:=
 rule R143 [st 2 (P (AqB .u8 c1)),sg 2 (P (AqB .u8 c2)),sg 3 (P (AqB .u8 c3))]
theorem R145:Rn 69 a69:=fun _ _ _=>rfl
theorem r145_1(c1:((c.toNat:Nat):Int)≥97):E 69 [(.int .u8 ((c.toNat:Nat):Int))] [] (.bool (decide (((c.toNat:Nat):Int)≤122))) []:=
 rule R145 [st 2 (P (b_geqT .u8 c1))]
theorem r145_2(c1:¬((c.toNat:Nat):Int)≥97):E 69 [(.int .u8 ((c.toNat:Nat):Int))] [] (.bool false) []:=
 rule R145 [st 2 (P (b_geqF .u8 c1))]
theorem R135:Rn 71 a71:=fun _ _ _=>rfl
theorem r135_1(c1:((c.toNat:Nat):Int)≥48):E 71 [(.int .u8 ((c.toNat:Nat):Int))] [] (.bool (decide (((c.toNat:Nat):Int)≤57))) []:=
 rule R135 [st 2 (P (b_geqT .u8 c1))]
theorem r135_2(c1:¬((c.toNat:Nat):Int)≥48):E 71 [(.int .u8 ((c.toNat:Nat):Int))] [] (.bool false) []:=
 rule R135 [st 2 (P (b_geqF .u8 c1))]
theorem R144:Rn 68 a68:=fun _ _ _=>rfl
theorem r144:E 68 [(.int .u8 ((c.toNat:Nat):Int))] [] (.bool (((c.toNat:Nat):Int) != 10)) []:=
 rule R144 []
theorem R146:Rn 70 a70:=fun _ _ _=>rfl
theorem r146_1(h1:E 69 [(.int .u8 ((c.toNat:Nat):Int))] [] (.bool true) []):E 70 [(.int .u8 ((c.toNat:Nat):Int))] [] (.bool true) []:=
 rule R146 [st 2 (oC h1)]
theorem r146_2(h1:E 69 [(.int .u8 ((c.toNat:Nat):Int))] [] (.bool false) [])(h2:E 71 [(.int .u8 ((c.toNat:Nat):Int))] [] (.bool true) []):E 70 [(.int .u8 ((c.toNat:Nat):Int))] [] (.bool true) []:=
 rule R146 [st 2 (oC h1),sg 2 (oC h2)]
theorem r146_3(h1:E 69 [(.int .u8 ((c.toNat:Nat):Int))] [] (.bool false) [])(h2:E 71 [(.int .u8 ((c.toNat:Nat):Int))] [] (.bool false) []):E 70 [(.int .u8 ((c.toNat:Nat):Int))] [] (.bool (((c.toNat:Nat):Int)==95)) []:=
 rule R146 [st 2 (oC h1),sg 2 (oC h2)]
theorem R134:Rn 67 a67:=fun _ _ _=>rfl
theorem r134(L1:LL a67 0 [(0,some (.str s)),(1,some (N i)),(2,some (.func g [] []))] [] (.exit 0) [(1,some (N m1))] []):E 67 [(.str s),(N i),(.func g [] [])] [] (N m1) []:=
 rule R134 [sl 1 [0,1,2] L1]
theorem r134_l0_out1(c1:¬(m1:Int) < (((s).length:Nat):Int)):LL a67 0 [(0,some (.str s)),(1,some (N m1)),(2,some (.func g [] []))] [] (.exit 0) [(1,some (N m1))] []:=
 ruleX [1] [st 3 (P (AqJ .i64 c1))]
theorem r134_l0_next1(c1:(m1:Int) < (((s).length:Nat):Int))(g1:(s:List UInt8)[m1]?=some c2)(pg:pur g=true)(h1:E g [(.int .u8 ((c2.toNat:Nat):Int))] [] (.bool true) [])(l1:m1<2000000000)(hl:LL a67 0 [(0,some (.str s)),(1,some (N (m1+1))),(2,some (.func g [] []))] [] e ff' σ'):LL a67 0 [(0,some (.str s)),(1,some (N m1)),(2,some (.func g [] []))] [] e ff' σ':=
 ruleN [0,1,2] [st 3 (P (Aq6 .i64 c1)),sg 4 (P (AqD _ (m1) _ g1)),sg 0 (AkV h1 pg (by rfl) (by rfl) (by rfl) (by rfl) (by rfl):OpEv pur run (.w .calld) [(.func g [] []),(.int .u8 ((c2.toNat:Nat):Int))] [] [some (.bool true)] []),st 3 (P (Aq4 (m1) 1 l1 (by decide)))] hl
theorem r134_l0_out2(c1:(m1:Int) < (((s).length:Nat):Int))(g1:(s:List UInt8)[m1]?=some c2)(pg:pur g=true)(h1:E g [(.int .u8 ((c2.toNat:Nat):Int))] [] (.bool false) []):LL a67 0 [(0,some (.str s)),(1,some (N m1)),(2,some (.func g [] []))] [] (.exit 0) [(1,some (N m1))] []:=
 ruleX [1] [st 3 (P (Aq6 .i64 c1)),sg 4 (P (AqD _ (m1) _ g1)),sg 0 (AkV h1 pg (by rfl) (by rfl) (by rfl) (by rfl) (by rfl):OpEv pur run (.w .calld) [(.func g [] []),(.int .u8 ((c2.toNat:Nat):Int))] [] [some (.bool false)] [])]
theorem R132:Rn 18 a18:=fun _ _ _=>rfl
theorem r132_1(L1:LL a18 0 [(0,some (.str s)),(1,some (N i))] [] (.exit 0) [(1,some (N m1))] []):E 18 [(.str s),(N i)] [] (N m1) []:=
 rule R132 [sl 1 [0,1] L1]
theorem r132_2(L1:LL a18 0 [(0,some (.str s)),(1,some (N i))] [] .ret [(4,some (N m1))] []):E 18 [(.str s),(N i)] [] (N m1) []:=
 rule R132 [sl 1 [0,1] L1]
theorem AX2(c1:¬(m1:Int) < (((s).length:Nat):Int)):LL a18 0 [(0,some (.str s)),(1,some (N m1))] [] (.exit 0) [(1,some (N m1))] []:=
 ruleX [1] [st 3 (P (AqJ .i64 c1))]
theorem AwD(c1:(m1:Int) < (((s).length:Nat):Int))(g1:(s:List UInt8)[m1]?=some c2)(h1:E 66 [(.int .u8 ((c2.toNat:Nat):Int))] [] (.bool true) [])(l1:m1<2000000000)(hl:LL a18 0 [(0,some (.str s)),(1,some (N (m1+1)))] [] e ff' σ'):LL a18 0 [(0,some (.str s)),(1,some (N m1))] [] e ff' σ':=
 ruleN [0,1] [st 3 (P (Aq6 .i64 c1)),st 3 (P (AqD _ (m1) _ g1)),st 0 (oC h1),st 3 (P (Aq4 (m1) 1 l1 (by decide)))] hl
theorem AwC(c1:(m1:Int) < (((s).length:Nat):Int))(g1:(s:List UInt8)[m1]?=some c2)(h1:E 66 [(.int .u8 ((c2.toNat:Nat):Int))] [] (.bool false) [])(c3:((c2.toNat:Nat):Int)=35)(h2:E 67 [(.str s),(N m1),(.func 68 [] [])] [] (N m2) [])(hl:LL a18 0 [(0,some (.str s)),(1,some (N m2))] [] e ff' σ'):LL a18 0 [(0,some (.str s)),(1,some (N m1))] [] e ff' σ':=
 ruleN [0,1] [st 3 (P (Aq6 .i64 c1)),st 3 (P (AqD _ (m1) _ g1)),st 0 (oC h1),st 4 (P (AqD _ (m1) _ g1)),st 0 (P (AqR .u8 c3)),st 4 (oC h2)] hl
theorem r132_l0_out2(c1:(m1:Int) < (((s).length:Nat):Int))(g1:(s:List UInt8)[m1]?=some c2)(h1:E 66 [(.int .u8 ((c2.toNat:Nat):Int))] [] (.bool false) [])(c3:((c2.toNat:Nat):Int)≠35):LL a18 0 [(0,some (.str s)),(1,some (N m1))] [] .ret [(4,some (N m1))] []:=
 ruleX [4] [st 3 (P (Aq6 .i64 c1)),st 3 (P (AqD _ (m1) _ g1)),st 0 (oC h1),st 4 (P (AqD _ (m1) _ g1)),st 0 (P (AqB .u8 c3))]
theorem R148:Rn 73 a73:=fun _ _ _=>rfl
theorem r148_1(l1:i<2000000000)(c1:¬((i+1:Nat):Int) < (((s).length:Nat):Int))(L1:LL a73 0 [(0,some (.str s)),(1,some (N i)),(44,some (.slice false 1 (symL.map by8))),(45,some (I 18)),(46,some (I 0))] [] (.exit 0) [(0,some (.str s)),(1,some (N i)),(44,some (.slice false 1 (symL.map by8)))] []):E 73 [(.str s),(N i)] [] (I 0) []:=
 rule R148 [st 2 (P (Aq4 (i) 1 l1 (by decide))),st 2 (P (AqJ .i64 c1)),sl 36 [0,1,44,45,46] L1]
theorem r148_2(l1:i<2000000000)(c1:¬((i+1:Nat):Int) < (((s).length:Nat):Int))(L1:LL a73 0 [(0,some (.str s)),(1,some (N i)),(44,some (.slice false 1 (symL.map by8))),(45,some (I 18)),(46,some (I 0))] [] .ret [(4,some (I 1))] []):E 73 [(.str s),(N i)] [] (I 1) []:=
 rule R148 [st 2 (P (Aq4 (i) 1 l1 (by decide))),st 2 (P (AqJ .i64 c1)),sl 36 [0,1,44,45,46] L1]
theorem r148_3(l1:i<2000000000)(c1:((i+1:Nat):Int) < (((s).length:Nat):Int))(g1:(s:List UInt8)[i+1]?=some c2)(c3:((c2.toNat:Nat):Int)=61)(g2:(s:List UInt8)[i]?=some c4)(c5:((c4.toNat:Nat):Int)=61):E 73 [(.str s),(N i)] [] (I 2) []:=
 rule R148 [st 2 (P (Aq4 (i) 1 l1 (by decide))),st 2 (P (Aq6 .i64 c1)),sg 3 (P (Aq4 (i) 1 l1 (by decide))),sg 0 (P (AqD _ (i+1) _ g1)),sg 0 (P (AqR .u8 c3)),sg 4 (P (AqD _ (i) _ g2)),sg 0 (P (AqR .u8 c5))]
theorem r148_4(l1:i<2000000000)(c1:((i+1:Nat):Int) < (((s).length:Nat):Int))(g1:(s:List UInt8)[i+1]?=some c2)(c3:((c2.toNat:Nat):Int)≠61)(L1:LL a73 0 [(0,some (.str s)),(1,some (N i)),(44,some (.slice false 1 (symL.map by8))),(45,some (I 18)),(46,some (I 0))] [] (.exit 0) [(0,some (.str s)),(1,some (N i)),(44,some (.slice false 1 (symL.map by8)))] []):E 73 [(.str s),(N i)] [] (I 0) []:=
 rule R148 [st 2 (P (Aq4 (i) 1 l1 (by decide))),st 2 (P (Aq6 .i64 c1)),sg 3 (P (Aq4 (i) 1 l1 (by decide))),sg 0 (P (AqD _ (i+1) _ g1)),sg 0 (P (AqB .u8 c3)),sl 30 [0,1,44,45,46] L1]
theorem r148_5(l1:i<2000000000)(c1:((i+1:Nat):Int) < (((s).length:Nat):Int))(g1:(s:List UInt8)[i+1]?=some c2)(c3:((c2.toNat:Nat):Int)≠61)(L1:LL a73 0 [(0,some (.str s)),(1,some (N i)),(44,some (.slice false 1 (symL.map by8))),(45,some (I 18)),(46,some (I 0))] [] .ret [(4,some (I 1))] []):E 73 [(.str s),(N i)] [] (I 1) []:=
 rule R148 [st 2 (P (Aq4 (i) 1 l1 (by decide))),st 2 (P (Aq6 .i64 c1)),sg 3 (P (Aq4 (i) 1 l1 (by decide))),sg 0 (P (AqD _ (i+1) _ g1)),sg 0 (P (AqB .u8 c3)),sl 30 [0,1,44,45,46] L1]
theorem r148_6(l1:i<2000000000)(c1:((i+1:Nat):Int) < (((s).length:Nat):Int))(g1:(s:List UInt8)[i+1]?=some c2)(c3:((c2.toNat:Nat):Int)=61)(g2:(s:List UInt8)[i]?=some c4)(c5:((c4.toNat:Nat):Int)≠61)(c6:((c4.toNat:Nat):Int)=33):E 73 [(.str s),(N i)] [] (I 2) []:=
 rule R148 [st 2 (P (Aq4 (i) 1 l1 (by decide))),st 2 (P (Aq6 .i64 c1)),sg 3 (P (Aq4 (i) 1 l1 (by decide))),sg 0 (P (AqD _ (i+1) _ g1)),sg 0 (P (AqR .u8 c3)),sg 4 (P (AqD _ (i) _ g2)),sg 0 (P (AqB .u8 c5)),sg 3 (P (AqD _ (i) _ g2)),sg 0 (P (AqR .u8 c6))]
theorem r148_7(l1:i<2000000000)(c1:((i+1:Nat):Int) < (((s).length:Nat):Int))(g1:(s:List UInt8)[i+1]?=some c2)(c3:((c2.toNat:Nat):Int)=61)(g2:(s:List UInt8)[i]?=some c4)(c5:((c4.toNat:Nat):Int)≠61)(c6:((c4.toNat:Nat):Int)≠33)(c7:((c4.toNat:Nat):Int)=60):E 73 [(.str s),(N i)] [] (I 2) []:=
 rule R148 [st 2 (P (Aq4 (i) 1 l1 (by decide))),st 2 (P (Aq6 .i64 c1)),sg 3 (P (Aq4 (i) 1 l1 (by decide))),sg 0 (P (AqD _ (i+1) _ g1)),sg 0 (P (AqR .u8 c3)),sg 4 (P (AqD _ (i) _ g2)),sg 0 (P (AqB .u8 c5)),sg 3 (P (AqD _ (i) _ g2)),sg 0 (P (AqB .u8 c6)),sg 4 (P (AqD _ (i) _ g2)),sg 0 (P (AqR .u8 c7))]
theorem r148_8(l1:i<2000000000)(c1:((i+1:Nat):Int) < (((s).length:Nat):Int))(g1:(s:List UInt8)[i+1]?=some c2)(c3:((c2.toNat:Nat):Int)=61)(g2:(s:List UInt8)[i]?=some c4)(c5:((c4.toNat:Nat):Int)≠61)(c6:((c4.toNat:Nat):Int)≠33)(c7:((c4.toNat:Nat):Int)≠60)(c8:((c4.toNat:Nat):Int)=62):E 73 [(.str s),(N i)] [] (I 2) []:=
 rule R148 [st 2 (P (Aq4 (i) 1 l1 (by decide))),st 2 (P (Aq6 .i64 c1)),sg 3 (P (Aq4 (i) 1 l1 (by decide))),sg 0 (P (AqD _ (i+1) _ g1)),sg 0 (P (AqR .u8 c3)),sg 4 (P (AqD _ (i) _ g2)),sg 0 (P (AqB .u8 c5)),sg 3 (P (AqD _ (i) _ g2)),sg 0 (P (AqB .u8 c6)),sg 4 (P (AqD _ (i) _ g2)),sg 0 (P (AqB .u8 c7)),sg 4 (P (AqD _ (i) _ g2)),sg 0 (P (AqR .u8 c8))]
theorem r148_9(l1:i<2000000000)(c1:((i+1:Nat):Int) < (((s).length:Nat):Int))(g1:(s:List UInt8)[i+1]?=some c2)(c3:((c2.toNat:Nat):Int)=61)(g2:(s:List UInt8)[i]?=some c4)(c5:((c4.toNat:Nat):Int)≠61)(c6:((c4.toNat:Nat):Int)≠33)(c7:((c4.toNat:Nat):Int)≠60)(c8:((c4.toNat:Nat):Int)≠62)(L1:LL a73 0 [(0,some (.str s)),(1,some (N i)),(44,some (.slice false 1 (symL.map by8))),(45,some (I 18)),(46,some (I 0))] [] (.exit 0) [(0,some (.str s)),(1,some (N i)),(44,some (.slice false 1 (symL.map by8)))] []):E 73 [(.str s),(N i)] [] (I 0) []:=
 rule R148 [st 2 (P (Aq4 (i) 1 l1 (by decide))),st 2 (P (Aq6 .i64 c1)),sg 3 (P (Aq4 (i) 1 l1 (by decide))),sg 0 (P (AqD _ (i+1) _ g1)),sg 0 (P (AqR .u8 c3)),sg 4 (P (AqD _ (i) _ g2)),sg 0 (P (AqB .u8 c5)),sg 3 (P (AqD _ (i) _ g2)),sg 0 (P (AqB .u8 c6)),sg 4 (P (AqD _ (i) _ g2)),sg 0 (P (AqB .u8 c7)),sg 4 (P (AqD _ (i) _ g2)),sg 0 (P (AqB .u8 c8)),sl 7 [0,1,44,45,46] L1]
theorem r148_10(l1:i<2000000000)(c1:((i+1:Nat):Int) < (((s).length:Nat):Int))(g1:(s:List UInt8)[i+1]?=some c2)(c3:((c2.toNat:Nat):Int)=61)(g2:(s:List UInt8)[i]?=some c4)(c5:((c4.toNat:Nat):Int)≠61)(c6:((c4.toNat:Nat):Int)≠33)(c7:((c4.toNat:Nat):Int)≠60)(c8:((c4.toNat:Nat):Int)≠62)(L1:LL a73 0 [(0,some (.str s)),(1,some (N i)),(44,some (.slice false 1 (symL.map by8))),(45,some (I 18)),(46,some (I 0))] [] .ret [(4,some (I 1))] []):E 73 [(.str s),(N i)] [] (I 1) []:=
 rule R148 [st 2 (P (Aq4 (i) 1 l1 (by decide))),st 2 (P (Aq6 .i64 c1)),sg 3 (P (Aq4 (i) 1 l1 (by decide))),sg 0 (P (AqD _ (i+1) _ g1)),sg 0 (P (AqR .u8 c3)),sg 4 (P (AqD _ (i) _ g2)),sg 0 (P (AqB .u8 c5)),sg 3 (P (AqD _ (i) _ g2)),sg 0 (P (AqB .u8 c6)),sg 4 (P (AqD _ (i) _ g2)),sg 0 (P (AqB .u8 c7)),sg 4 (P (AqD _ (i) _ g2)),sg 0 (P (AqB .u8 c8)),sl 7 [0,1,44,45,46] L1]
theorem r148_l0_out1(c1:¬(m1:Int) < 18):LL a73 0 [(0,some (.str s)),(1,some (N i)),(44,some (.slice false 1 (symL.map by8))),(45,some (I 18)),(46,some (N m1))] [] (.exit 0) [(0,some (.str s)),(1,some (N i)),(44,some (.slice false 1 (symL.map by8)))] []:=
 ruleX [0,1,44] [st 0 (P (AqJ .i64 c1))]
theorem r148_l0_out2(c1:(m1:Int) < 18)(g1:(symL)[m1]?=some c2)(g2:(s:List UInt8)[i]?=some c3)(c4:((c3.toNat:Nat):Int)=((c2.toNat:Nat):Int)):LL a73 0 [(0,some (.str s)),(1,some (N i)),(44,some (.slice false 1 (symL.map by8))),(45,some (I 18)),(46,some (N m1))] [] .ret [(4,some (I 1))] []:=
 ruleX [4] [st 0 (P (Aq6 .i64 c1)),st 1 (P (idx_bys (o:=false) (s:=1) (m1) g1)),st 4 (P (AqD _ (i) _ g2)),st 1 (P (AqR .u8 c4))]
theorem AwA(c1:(m1:Int) < 18)(g1:(symL)[m1]?=some c2)(g2:(s:List UInt8)[i]?=some c3)(c4:((c3.toNat:Nat):Int)≠((c2.toNat:Nat):Int))(l1:m1<2000000000)(hl:LL a73 0 [(0,some (.str s)),(1,some (N i)),(44,some (.slice false 1 (symL.map by8))),(45,some (I 18)),(46,some (N (m1+1)))] [] e ff' σ'):LL a73 0 [(0,some (.str s)),(1,some (N i)),(44,some (.slice false 1 (symL.map by8))),(45,some (I 18)),(46,some (N m1))] [] e ff' σ':=
 ruleN [0,1,44,45,46] [st 0 (P (Aq6 .i64 c1)),st 1 (P (idx_bys (o:=false) (s:=1) (m1) g1)),st 4 (P (AqD _ (i) _ g2)),st 1 (P (AqB .u8 c4)),st 1 (P (Aq4 (m1) 1 l1 (by decide)))] hl
theorem R133:Rn 19 a19:=fun _ _ _=>rfl
theorem r133_1(g1:(s:List UInt8)[i]?=some c1)(h1:E 69 [(.int .u8 ((c1.toNat:Nat):Int))] [] (.bool true) [])(h2:E 67 [(.str s),(N i),(.func 70 [] [])] [] (N m1) [])(x1:semP (.ssl true true) [(.str s),(N i),(N m1)]=some [some (.str s1)])(h3:E 72 [(.str s1)] [] (.bool true) []):E 19 [(.str s),(N i)] [] (.tuple [(I 1),(N m1)]) []:=
 rule R133 [st 4 (P (AqD _ (i) _ g1)),st 0 (oC h1),st 4 (oC h2),st 4 (P (x1)),st 0 (oC h3)]
theorem r133_2(g1:(s:List UInt8)[i]?=some c1)(h1:E 69 [(.int .u8 ((c1.toNat:Nat):Int))] [] (.bool true) [])(h2:E 67 [(.str s),(N i),(.func 70 [] [])] [] (N m1) [])(x1:semP (.ssl true true) [(.str s),(N i),(N m1)]=some [some (.str s1)])(h3:E 72 [(.str s1)] [] (.bool false) []):E 19 [(.str s),(N i)] [] (.tuple [(I 0),(N m1)]) []:=
 rule R133 [st 4 (P (AqD _ (i) _ g1)),st 0 (oC h1),st 4 (oC h2),st 4 (P (x1)),st 0 (oC h3)]
theorem r133_3(g1:(s:List UInt8)[i]?=some c1)(h1:E 69 [(.int .u8 ((c1.toNat:Nat):Int))] [] (.bool false) [])(h2:E 71 [(.int .u8 ((c1.toNat:Nat):Int))] [] (.bool true) [])(h3:E 67 [(.str s),(N i),(.func 71 [] [])] [] (N m1) []):E 19 [(.str s),(N i)] [] (.tuple [(I 2),(N m1)]) []:=
 rule R133 [st 4 (P (AqD _ (i) _ g1)),st 0 (oC h1),st 4 (P (AqD _ (i) _ g1)),st 0 (oC h2),st 4 (oC h3)]
theorem r133_4(g1:(s:List UInt8)[i]?=some c1)(h1:E 69 [(.int .u8 ((c1.toNat:Nat):Int))] [] (.bool false) [])(h2:E 71 [(.int .u8 ((c1.toNat:Nat):Int))] [] (.bool false) [])(h3:E 73 [(.str s),(N i)] [] (N m1) [])(c2:(m1:Int) > 0)(l1:i<2000000000)(l2:m1<2000000000):E 19 [(.str s),(N i)] [] (.tuple [(I 3),(N ((i+m1)))]) []:=
 rule R133 [st 4 (P (AqD _ (i) _ g1)),st 0 (oC h1),st 4 (P (AqD _ (i) _ g1)),st 0 (oC h2),st 4 (oC h3),st 2 (P (AxO .i64 c2)),st 3 (P (Aq4 (i) (m1) l1 l2))]
theorem r133_5(g1:(s:List UInt8)[i]?=some c1)(h1:E 69 [(.int .u8 ((c1.toNat:Nat):Int))] [] (.bool false) [])(h2:E 71 [(.int .u8 ((c1.toNat:Nat):Int))] [] (.bool false) [])(h3:E 73 [(.str s),(N i)] [] (N m1) [])(c2:¬(m1:Int) > 0)(l1:i<2000000000)(L1:LL a19 0 [(0,some (.str s)),(8,some (N (i+1)))] [] (.exit 1) [(0,some (.str s)),(8,some (N m2))] []):E 19 [(.str s),(N i)] [] (.tuple [(I 4),(N m2)]) []:=
 rule R133 [st 4 (P (AqD _ (i) _ g1)),st 0 (oC h1),st 4 (P (AqD _ (i) _ g1)),st 0 (oC h2),st 4 (oC h3),st 2 (P (Az7 .i64 c2)),st 2 (P (Aq4 (i) 1 l1 (by decide))),sl 1 [0,8] L1]
theorem r133_l0_out1(c1:¬(m1:Int) < (((s).length:Nat):Int)):LL a19 0 [(0,some (.str s)),(8,some (N m1))] [] (.exit 1) [(0,some (.str s)),(8,some (N m1))] []:=
 ruleX [0,8] [st 3 (P (AqJ .i64 c1))]
theorem r133_l0_out2(c1:(m1:Int) < (((s).length:Nat):Int))(g1:(s:List UInt8)[m1]?=some c2)(h1:E 66 [(.int .u8 ((c2.toNat:Nat):Int))] [] (.bool true) []):LL a19 0 [(0,some (.str s)),(8,some (N m1))] [] (.exit 1) [(0,some (.str s)),(8,some (N m1))] []:=
 ruleX [0,8] [st 3 (P (Aq6 .i64 c1)),sg 3 (P (AqD _ (m1) _ g1)),sg 0 (oC h1)]
theorem r133_l0_out3(c1:(m1:Int) < (((s).length:Nat):Int))(g1:(s:List UInt8)[m1]?=some c2)(h1:E 66 [(.int .u8 ((c2.toNat:Nat):Int))] [] (.bool false) [])(c3:((c2.toNat:Nat):Int)=35):LL a19 0 [(0,some (.str s)),(8,some (N m1))] [] (.exit 1) [(0,some (.str s)),(8,some (N m1))] []:=
 ruleX [0,8] [st 3 (P (Aq6 .i64 c1)),sg 3 (P (AqD _ (m1) _ g1)),sg 0 (oC h1),sg 5 (P (AqD _ (m1) _ g1)),sg 0 (P (AQ4 .u8 c3))]
theorem r133_l0_out4(c1:(m1:Int) < (((s).length:Nat):Int))(g1:(s:List UInt8)[m1]?=some c2)(h1:E 66 [(.int .u8 ((c2.toNat:Nat):Int))] [] (.bool false) [])(c3:((c2.toNat:Nat):Int)≠35)(h2:E 69 [(.int .u8 ((c2.toNat:Nat):Int))] [] (.bool true) []):LL a19 0 [(0,some (.str s)),(8,some (N m1))] [] (.exit 1) [(0,some (.str s)),(8,some (N m1))] []:=
 ruleX [0,8] [st 3 (P (Aq6 .i64 c1)),sg 3 (P (AqD _ (m1) _ g1)),sg 0 (oC h1),sg 5 (P (AqD _ (m1) _ g1)),sg 0 (P (AjJ .u8 c3)),sg 4 (P (AqD _ (m1) _ g1)),sg 0 (oC h2)]
theorem r133_l0_out5(c1:(m1:Int) < (((s).length:Nat):Int))(g1:(s:List UInt8)[m1]?=some c2)(h1:E 66 [(.int .u8 ((c2.toNat:Nat):Int))] [] (.bool false) [])(c3:((c2.toNat:Nat):Int)≠35)(h2:E 69 [(.int .u8 ((c2.toNat:Nat):Int))] [] (.bool false) [])(h3:E 71 [(.int .u8 ((c2.toNat:Nat):Int))] [] (.bool true) []):LL a19 0 [(0,some (.str s)),(8,some (N m1))] [] (.exit 1) [(0,some (.str s)),(8,some (N m1))] []:=
 ruleX [0,8] [st 3 (P (Aq6 .i64 c1)),sg 3 (P (AqD _ (m1) _ g1)),sg 0 (oC h1),sg 5 (P (AqD _ (m1) _ g1)),sg 0 (P (AjJ .u8 c3)),sg 4 (P (AqD _ (m1) _ g1)),sg 0 (oC h2),sg 5 (P (AqD _ (m1) _ g1)),sg 0 (oC h3)]
theorem r133_l0_next1(c1:(m1:Int) < (((s).length:Nat):Int))(g1:(s:List UInt8)[m1]?=some c2)(h1:E 66 [(.int .u8 ((c2.toNat:Nat):Int))] [] (.bool false) [])(c3:((c2.toNat:Nat):Int)≠35)(h2:E 69 [(.int .u8 ((c2.toNat:Nat):Int))] [] (.bool false) [])(h3:E 71 [(.int .u8 ((c2.toNat:Nat):Int))] [] (.bool false) [])(h4:E 73 [(.str s),(N m1)] [] (N m2) [])(c4:(m2:Int)=0)(l1:m1<2000000000)(hl:LL a19 0 [(0,some (.str s)),(8,some (N (m1+1)))] [] e ff' σ'):LL a19 0 [(0,some (.str s)),(8,some (N m1))] [] e ff' σ':=
 ruleN [0,8] [st 3 (P (Aq6 .i64 c1)),sg 3 (P (AqD _ (m1) _ g1)),sg 0 (oC h1),sg 5 (P (AqD _ (m1) _ g1)),sg 0 (P (AjJ .u8 c3)),sg 4 (P (AqD _ (m1) _ g1)),sg 0 (oC h2),sg 5 (P (AqD _ (m1) _ g1)),sg 0 (oC h3),sg 5 (oC h4),sg 0 (P (AqR .i64 c4)),st 3 (P (Aq4 (m1) 1 l1 (by decide)))] hl
theorem r133_l0_out6(c1:(m1:Int) < (((s).length:Nat):Int))(g1:(s:List UInt8)[m1]?=some c2)(h1:E 66 [(.int .u8 ((c2.toNat:Nat):Int))] [] (.bool false) [])(c3:((c2.toNat:Nat):Int)≠35)(h2:E 69 [(.int .u8 ((c2.toNat:Nat):Int))] [] (.bool false) [])(h3:E 71 [(.int .u8 ((c2.toNat:Nat):Int))] [] (.bool false) [])(h4:E 73 [(.str s),(N m1)] [] (N m2) [])(c4:(m2:Int)≠0):LL a19 0 [(0,some (.str s)),(8,some (N m1))] [] (.exit 1) [(0,some (.str s)),(8,some (N m1))] []:=
 ruleX [0,8] [st 3 (P (Aq6 .i64 c1)),sg 3 (P (AqD _ (m1) _ g1)),sg 0 (oC h1),sg 5 (P (AqD _ (m1) _ g1)),sg 0 (P (AjJ .u8 c3)),sg 4 (P (AqD _ (m1) _ g1)),sg 0 (oC h2),sg 5 (P (AqD _ (m1) _ g1)),sg 0 (oC h3),sg 5 (oC h4),sg 0 (P (AqB .i64 c4))]
theorem R147:Rn 72 a72:=fun _ _ _=>rfl
theorem r147{b1:Bool}(x1:semP (.look (.bool false) false false) [kwMap,(.str w)]=some [some (.bool b1)]):E 72 [(.str w)] [] (.bool b1) []:=
 rule R147 [st 1 (oC e153),st 1 (P (x1))]
theorem R98:Rn 129 a129:=fun _ _ _=>rfl
theorem r98_1(c1:w=[]):E 129 [(.str w)] [] (.tuple [(I 0),(.bool false)]) []:=
 rule R98 [st 3 (P (AQX c1))]
theorem r98_2(c1:w≠[])(c2:(((w).length:Nat):Int) > 9):E 129 [(.str w)] [] (.tuple [(I 0),(.bool false)]) []:=
 rule R98 [st 3 (P (AQY c1)),sg 3 (P (AxO .i64 c2))]
theorem r98_3(c1:w≠[])(c2:¬(((w).length:Nat):Int) > 9)(h1:E 67 [(.str w),(I 0),(.func 71 [] [])] [] (N m1) [])(c3:(m1:Int) < (((w).length:Nat):Int)):E 129 [(.str w)] [] (.tuple [(I 0),(.bool false)]) []:=
 rule R98 [st 3 (P (AQY c1)),sg 3 (P (Az7 .i64 c2)),sg 3 (oC h1),sg 2 (P (Aq6 .i64 c3))]
theorem r98_4(c1:w≠[])(c2:¬(((w).length:Nat):Int) > 9)(h1:E 67 [(.str w),(I 0),(.func 71 [] [])] [] (N m1) [])(c3:¬(m1:Int) < (((w).length:Nat):Int))(L1:LL a129 0 [(4,some (I 0)),(22,some (.slice false 1 (w.map by8))),(23,some (N ((w).length))),(24,some (I 0))] [] (.exit 0) [(4,some (I z1)),(22,some (.slice false 1 (w.map by8)))] []):E 129 [(.str w)] [] (.tuple [(I z1),(.bool true)]) []:=
 rule R98 [st 3 (P (AQY c1)),sg 3 (P (Az7 .i64 c2)),sg 3 (oC h1),sg 2 (P (AqJ .i64 c3)),st 5 (P (len_bys false 1 w)),sl 1 [4,22,23,24] L1]
theorem r98_l0_next1{z2:Int}{z3:Int}{z4:Int}{z5:Int}(c1:(m1:Int) < (((w).length:Nat):Int))(g1:(w)[m1]?=some c2)(w1:IntKind.i64.wrap (10 * z1)=z2)(w2:IntKind.u8.wrap (((c2.toNat:Nat):Int) - 48)=z3)(w3:IntKind.i64.wrap z3=z4)(w4:IntKind.i64.wrap (z2+z4)=z5)(l1:m1<2000000000)(hl:LL a129 0 [(4,some (I z5)),(22,some (.slice false 1 (w.map by8))),(23,some (N ((w).length))),(24,some (N (m1+1)))] [] e ff' σ'):LL a129 0 [(4,some (I z1)),(22,some (.slice false 1 (w.map by8))),(23,some (N ((w).length))),(24,some (N m1))] [] e ff' σ':=
 ruleN [4,22,23,24] [st 0 (P (Aq6 .i64 c1)),st 1 (P (idx_bys (o:=false) (s:=1) (m1) g1)),st 3 (P (mul_of w1)),st 1 (P (sub_of w2)),st 0 (P (cvt_of (k:=.u8) w3)),st 0 (P (add_of w4)),st 1 (P (Aq4 (m1) 1 l1 (by decide)))] hl
theorem r98_l0_out1(c1:¬(m1:Int) < (((w).length:Nat):Int)):LL a129 0 [(4,some (I z1)),(22,some (.slice false 1 (w.map by8))),(23,some (N ((w).length))),(24,some (N m1))] [] (.exit 0) [(4,some (I z1)),(22,some (.slice false 1 (w.map by8)))] []:=
 ruleX [4,22] [st 0 (P (AqJ .i64 c1))]
theorem R97:Rn 6 a6:=fun _ _ _=>rfl
theorem r97_2(c1:¬(((s).length:Nat):Int) > 4096)(L1:LL a6 0 [(0,some (.str s)),(4,some .nils),(5,some (I 0))] [] .ret [(2,some (accP 4 es1)),(3,some (I 0))] []):E 6 [(.str s)] [] (.tuple [(accD 4 es1),(I 0)]) []:=
 ruleO R97 [st 4 (P (Az7 .i64 c1)),sl 3 [0,4,5] L1] (by simp[AxZ,packR]:(resK [(2,some (accP 4 es1)),(3,some (I 0))] [(2,none),(3,none)]).bind packR=some (.tuple [(accD 4 es1),(I 0)]))
theorem r97_l0_out1(h1:E 18 [(.str s),(N m1)] [] (N m2) [])(c1:(m2:Int)=(((s).length:Nat):Int))(l1:es1.length+1≤AqC):LL a6 0 [(0,some (.str s)),(4,some (accP 4 es1)),(5,some (N m1))] [] .ret [(2,some (accP 4 (es1++[(.agg [(I 5),(N m1),(N m2),(N m2)])]))),(3,some (I 0))] []:=
 ruleX [2,3] [st 2 (oC h1),st 4 (P (AqR .i64 c1)),st 1 (P (AkY 4 es1)),st 5 (op_p (AzX l1 (by simp)):OpEv pur run (.p (.app 4)) [(accP 4 es1),(.slice true 4 [(.agg [(I 5),(N m1),(N m2),(N m2)])])] [] [some (accP 4 (es1++[(.agg [(I 5),(N m1),(N m2),(N m2)])])),some (accD 4 es1)] []),st 0 (P (AkY 4 (es1++[(.agg [(I 5),(N m1),(N m2),(N m2)])])))]
theorem r97_l0_next1{m3:Nat}{m4:Nat}(h1:E 18 [(.str s),(N m1)] [] (N m2) [])(c1:(m2:Int)≠(((s).length:Nat):Int))(h2:E 19 [(.str s),(N m2)] [] (.tuple [(N m3),(N m4)]) [])(l1:es1.length+1≤AqC)(hl:LL a6 0 [(0,some (.str s)),(4,some (accP 4 (es1++[(.agg [(N m3),(N m1),(N m2),(N m4)])]))),(5,some (N m4))] [] e ff' σ'):LL a6 0 [(0,some (.str s)),(4,some (accP 4 es1)),(5,some (N m1))] [] e ff' σ':=
 ruleN [0,4,5] [st 2 (oC h1),st 4 (P (AqB .i64 c1)),st 3 (oC h2),st 5 (P (AkY 4 es1)),st 6 (op_p (AzX l1 (by simp)):OpEv pur run (.p (.app 4)) [(accP 4 es1),(.slice true 4 [(.agg [(N m3),(N m1),(N m2),(N m4)])])] [] [some (accP 4 (es1++[(.agg [(N m3),(N m1),(N m2),(N m4)])])),some (accD 4 es1)] []),st 0 (P (AkY 4 (es1++[(.agg [(N m3),(N m1),(N m2),(N m4)])])))] hl
end Go.Abs.Z

namespace Go.Abs.Z
structure WFt(s:List UInt8)(t:Tk):Prop where
 ord:t.a≤t.e∧t.e≤s.length∧t.f≤t.a
 k0:t.k=0→leB ((wd s t).headD 0)=true∧kwL.contains (wd s t)=false
 k1:t.k=1→kwL.contains (wd s t)=true
 k2:t.k=2→diB ((wd s t).headD 0)=true∧(wd s t).all diB=true
 k3:t.k=3→leB ((wd s t).headD 0)=false∧diB ((wd s t).headD 0)=false∧wd s t≠[]
 k5:t.k=5→wd s t=[]
theorem wd_eq{s r:List UInt8}{k f a n:Nat}(h:s.drop a=r):wd s ⟨k,f,a,a+n⟩=r.take n:=by
 simp only[wd];rw[h,show a+n - a=n by omega]
theorem runL_take(p:UInt8→Bool)(l:List UInt8):(l.take (runL p l)).all p=true:=by
 induction l with
 |nil=>rfl
 |cons c l ih=>
  unfold runL at *;rw[List.takeWhile_cons];cases h:p c with
  |true=>simp only[if_true,List.length_cons,List.take_succ_cons,List.all_cons,h,Bool.true_and];exact ih
  |false=>rfl
theorem symN_le(l:List UInt8):symN l≤l.length:=by
 cases l with
 |nil=>simp[symN]
 |cons a l=>
  rw[symN];split
  ·rename_i h;cases l with
   |nil=>simp at h
   |cons=>simp
  ·split<;>simp
theorem AQE(p:UInt8→Bool)(l:List UInt8):runL p l≤l.length:=by
 unfold runL;exact(List.takeWhile_sublist p).length_le
theorem wrN_le:∀l:List UInt8,wrN l≤l.length
 |[]=>Nat.le_refl _
 |c::l=>by have:=wrN_le l;rw[wrN];split<;>simp;omega
theorem AXW:∀(b:Bool) (l:List UInt8),skN b l≤l.length
 |b,[]=>by cases b<;>simp[skN]
 |true,c::l=>by
  have h1:=AXW false l;have h2:=AXW true l;simp only[skN,List.length_cons];split<;>omega
 |false,c::l=>by
  have h1:=AXW false l;have h2:=AXW true l;simp only[skN,List.length_cons];split
  ·omega
  ·split<;>omega
theorem tok_wf{s r:List UInt8}{f a:Nat}(hr:s.drop a=r)(hne:r≠[])(hf:f≤a):WFt s ⟨(tokN r).1,f,a,a+(tokN r).2⟩∧0<(tokN r).2∧a+(tokN r).2≤s.length∧(tokN r).1<5:=by
 have hlen:r.length=s.length - a:=by rw[←hr,List.length_drop]
 cases r with
 |nil=>exact absurd rfl hne
 |cons c l=>
  have hpos:0<s.length - a:=by rw[←hlen];simp
  have hd:∀n,0<n→((c::l).take n).headD 0=c:=fun n hn=>by
   cases n with
   |zero=>omega
   |succ n=>rfl
  have hne':∀n,0<n→(c::l).take n≠[]:=fun n hn=>by
   cases n with
   |zero=>omega
   |succ n=>simp
  unfold tokN;simp only[List.headD_cons,List.tail_cons];by_cases hl:leB c=true
  ·simp only[hl,if_true];have hwo:woB c=true:=by simp[woB,hl]
   have h0:0<runL woB (c::l):=by simp[runL,hwo]
   have hle:=AQE woB (c::l);refine⟨?_,h0,by omega,by split<;>omega⟩
   have hw:wd s ⟨if kwL.contains ((c::l).take (runL woB (c::l)))=true then 1 else 0,f,a,a+runL woB (c::l)⟩=(c::l).take (runL woB (c::l)):=wd_eq hr
   cases hk:kwL.contains ((c::l).take (runL woB (c::l))) with
   |true=>
    rw[hk] at hw;exact⟨⟨by simp,by simp only;omega,hf⟩,fun h=>by simp at h,fun _=>by rw[hw];exact hk,fun h=>by simp at h,fun h=>by simp at h,fun h=>by simp at h⟩
   |false=>
    rw[hk] at hw;exact⟨⟨by simp,by simp only;omega,hf⟩,fun _=>by rw[hw,hd _ h0];exact⟨hl,hk⟩,fun h=>by simp at h,fun h=>by simp at h,fun h=>by simp at h,fun h=>by simp at h⟩
  ·by_cases hdg:diB c=true
   ·simp only[hl,hdg,if_true,Bool.false_eq_true,if_false];have h0:0<runL diB (c::l):=by simp[runL,hdg]
    have hle:=AQE diB (c::l);have hw:wd s ⟨2,f,a,a+runL diB (c::l)⟩=(c::l).take (runL diB (c::l)):=wd_eq hr;exact⟨⟨⟨by simp,by simp only;omega,hf⟩,fun h=>by simp at h,fun h=>by simp at h,fun _=>by rw[hw,hd _ h0];exact⟨hdg,runL_take _ _⟩,fun h=>by simp at h,fun h=>by simp at h⟩,h0,by omega,by omega⟩
   ·have hl':leB c=false:=by simpa using hl
    have hd':diB c=false:=by simpa using hdg
    by_cases hs:0<symN (c::l)
    ·simp only[hl',hd',hs,if_true,Bool.false_eq_true,if_false];have hle:=symN_le (c::l);have hw:wd s ⟨3,f,a,a+symN (c::l)⟩=(c::l).take (symN (c::l)):=wd_eq hr;exact⟨⟨⟨by simp,by simp only;omega,hf⟩,fun h=>by simp at h,fun h=>by simp at h,fun h=>by simp at h,fun _=>by rw[hw,hd _ hs];exact⟨hl',hd',hne' _ hs⟩,fun h=>by simp at h⟩,trivial,by omega,by omega⟩
    ·simp only[hl',hd',hs,Bool.false_eq_true,if_false];have hle:=wrN_le l;simp only[List.length_cons] at hlen;exact⟨⟨⟨by simp,by simp only;omega,hf⟩,fun h=>by simp at h,fun h=>by simp at h,fun h=>by simp at h,fun h=>by simp at h,fun h=>by simp at h⟩,by omega,by omega,by omega⟩
structure Tok0(s:List UInt8)(f:Nat)(l:List Tk):Prop where
 init:∃l0 g,l=l0++[⟨5,g,s.length,s.length⟩]∧∀t∈l0,t.k<5
 wf:∀t∈l,WFt s t∧f≤t.a
 ord:l.Pairwise fun t u=>t.a<u.a∧t.e≤u.a
theorem Aw6(s:List UInt8):∀(n f:Nat),f≤s.length→s.length - f<n→Tok0 s f (scanF n (s.drop f) f)
 |0,f,_,h=>by omega
 |n+1,f,hf,h=>by
  have hk:=AXW false (s.drop f);rw[List.length_drop] at hk;rw[scanF];by_cases he:(s.drop f).drop (skN false (s.drop f))=[]
  ·simp only[he,if_true];rw[List.drop_drop,List.drop_eq_nil_iff] at he;have e:f+skN false (s.drop f)=s.length:=by omega
   rw[e];refine⟨⟨[],f,rfl,fun t h=>by cases h⟩,fun t ht=>?_,by simp⟩
   rw[List.mem_singleton] at ht;subst ht;exact⟨⟨⟨by simp,by simp,hf⟩,fun h=>by simp at h,fun h=>by simp at h,fun h=>by simp at h,fun h=>by simp at h,fun _=>by simp[wd]⟩,hf⟩
  ·simp only[he,if_false];rw[List.drop_drop] at he;simp only[List.drop_drop];obtain⟨w1,w2,w3,w4⟩:=tok_wf (s:=s) (f:=f) (a:=f+skN false (s.drop f)) rfl he (by omega)
   have hlt:f+skN false (s.drop f) < s.length:=by omega
   obtain⟨⟨l0,g,e,hi⟩,hw,ho⟩:=Aw6 s n (f+skN false (s.drop f)+(tokN (s.drop (f+skN false (s.drop f)))).2) (by omega) (by omega)
   refine⟨⟨_::l0,g,by rw[e];rfl,fun t ht=>?_⟩,fun t ht=>?_,?_⟩
   ·rcases List.mem_cons.1 ht with rfl | ht
    ·exact w4
    ·exact hi t ht
   ·rcases List.mem_cons.1 ht with rfl | ht
    ·exact⟨w1,by simp⟩
    ·exact⟨(hw t ht).1,by have:=(hw t ht).2;omega⟩
   ·rw[List.pairwise_cons];exact⟨fun u hu=>by have:=(hw u hu).2;simp only;omega,ho⟩
def good(l:List Tk):List Tk:=l.filter fun t=>t.k != 4
theorem Tok0.good{s:List UInt8}{f:Nat}{l:List Tk}(h:Tok0 s f l):Tok0 s f (good l):=by
 obtain⟨⟨l0,g,e,hi⟩,hw,ho⟩:=h;refine⟨⟨Z.good l0,g,by rw[e];simp[Z.good],fun t ht=>hi t (List.mem_filter.1 ht).1⟩,fun t ht=>hw t (List.mem_filter.1 ht).1,ho.filter _⟩
theorem sp_facts:(spW.all fun x=>(!leB (x.headD 0)||kwL.contains x)&&!diB (x.headD 0))=true:=by decide
theorem bk_facts:(begK.all fun x=>leB (x.headD 0)&&spW.contains x)=true:=by decide
theorem toks_of{s:List UInt8}{l:List Tk}(h:Tok0 s 0 l)(hs:s.length<1000000)(hl:l.length≤1000000)(hk:∀t∈l,t.k≠4):Toks s l (l.length - 1):=by
 obtain⟨⟨l0,g,e,hi⟩,hw,ho⟩:=h;have hlen:l.length=l0.length+1:=by rw[e];simp
 have hlast:l[l.length - 1]?=some ⟨5,g,s.length,s.length⟩:=by rw[hlen,e];simp
 have mem:∀{k:Nat} {t:Tk},l[k]?=some t→t∈l:=fun h=>List.mem_of_getElem? h
 have nsp:∀(t:Tk),t∈l→spW.contains (wd s t)=true→t.k=1∨t.k=3:=by
  intro t ht hsp;have hf:=List.all_eq_true.1 sp_facts _ (List.contains_iff_mem.1 hsp);simp only[Bool.and_eq_true,Bool.or_eq_true,Bool.not_eq_true'] at hf;have w:=(hw t ht).1
  have h5:t.k≤5:=by
   rw[e] at ht;rcases List.mem_append.1 ht with h' | h'
   ·have:=hi t h';omega
   ·rw[List.mem_singleton] at h';subst h';simp
  have h4:=hk t ht
  have c0:t.k≠0:=fun h0=>by
   obtain⟨a,b⟩:=w.k0 h0;rcases hf.1 with x | x
   ·rw[a] at x;cases x
   ·rw[b] at x;cases x
  have c2:t.k≠2:=fun h0=>by
   obtain⟨a,b⟩:=w.k2 h0;rw[a] at hf;exact absurd hf.2 (by simp)
  have c5:t.k≠5:=fun h0=>by
   rw[w.k5 h0] at hsp;exact absurd hsp (by decide)
  omega
 refine⟨by omega,by omega,hs,⟨_,hlast,rfl,rfl⟩,fun k t ht=>⟨(hw t (mem ht)).1.ord.1,(hw t (mem ht)).1.ord.2.1⟩,fun i j t u ht hu hij=>?_,fun k t ht hkm=>?_,fun k t ht hsp=>nsp t (mem ht) hsp,fun k t ht hp=>?_,fun k t ht hb=>?_⟩
 ·have h1:=List.getElem?_eq_some_iff.1 ht
  have h2:=List.getElem?_eq_some_iff.1 hu
  have:=List.pairwise_iff_getElem.1 ho i j h1.1 h2.1 hij;rw[h1.2,h2.2] at this;exact this
 ·have hm:=mem ht
  have:t∈l0:=by
   have hk0:k<l0.length:=by omega
   rw[e,List.getElem?_append_left hk0] at ht
   exact List.mem_of_getElem? ht
  have h1:=hi t this;have h2:=hk t hm;omega
 ·rcases nsp t (mem ht) (by rw[hp];decide) with h1 | h3
  ·have:=(hw t (mem ht)).1.k1 h1;rw[hp] at this;exact absurd this (by decide)
  ·exact h3
 ·have hf:=List.all_eq_true.1 bk_facts _ (List.contains_iff_mem.1 hb);simp only[Bool.and_eq_true] at hf;rcases nsp t (mem ht) hf.2 with h1 | h3
  ·exact h1
  ·have:=((hw t (mem ht)).1.k3 h3).1;rw[hf.1] at this;cases this
theorem AjS:∀(n:Nat) (l:List UInt8) (f:Nat),(scanF n l f).length≤n
 |0,_,_=>Nat.le_refl _
 |n+1,l,f=>by
  simp only[scanF];split
  ·simp
  ·have:=AjS n (((l.drop (skN false l))).drop (tokN (l.drop (skN false l))).2) (f+skN false l+(tokN (l.drop (skN false l))).2);simp only[List.length_cons];omega
def toksT(s:List UInt8):List Tk:=good (scanT s)
theorem AQ8(s:List UInt8)(hs:s.length<999999):Toks s (toksT s) ((toksT s).length - 1):=by
 have h:=(Aw6 s (s.length+1) 0 (by omega) (by omega)).good
 have hl:(scanT s).length≤s.length+1:=AjS (s.length+1) s 0;refine toks_of h (by omega) ?_ (fun t ht=>?_)
 ·exact Nat.le_trans (List.length_filter_le _ _) (by omega)
 ·have:=(List.mem_filter.1 ht).2;simpa using this
end Go.Abs.Z

namespace Go.Abs.Z
open Go.Proofs Go.RowKit
theorem u8i(c d:UInt8):(((c.toNat:Nat):Int)=((d.toNat:Nat):Int))↔c=d:=by
 refine⟨fun h=>UInt8.toNat_inj.1 (by omega),fun h=>by rw[h]⟩
theorem e143(c:UInt8):E 66 [.int .u8 ((c.toNat:Nat):Int)] [] (.bool (whB c)) []:=by
 unfold whB;by_cases h1:c=9
 ·subst h1;exact r143_1 rfl
 by_cases h2:c=10
 ·subst h2;exact r143_2 (by decide) rfl
 by_cases h3:c=13
 ·subst h3;exact r143_3 (by decide) (by decide) rfl
 have e:(((c.toNat:Nat):Int)==32)=(c==32):=by
  by_cases h4:c=32
  ·subst h4;rfl
  ·rw[beq_eq_false_iff_ne.2 h4,beq_eq_false_iff_ne];exact fun h=>h4 ((u8i c 32).1 h)
 have:=r143_4 (c:=c) (fun h=>h1 ((u8i c 9).1 h)) (fun h=>h2 ((u8i c 10).1 h)) (fun h=>h3 ((u8i c 13).1 h))
 rw[e] at this;rw[beq_eq_false_iff_ne.2 h1,beq_eq_false_iff_ne.2 h2,beq_eq_false_iff_ne.2 h3];simpa using this
theorem e145(c:UInt8):E 69 [.int .u8 ((c.toNat:Nat):Int)] [] (.bool (leB c)) []:=by
 unfold leB;by_cases h:97≤c.toNat
 ·have:=r145_1 (c:=c) (by omega)
  rw[decide_eq_true h,Bool.true_and];have e:decide (((c.toNat:Nat):Int)≤122)=decide (c.toNat≤122):=by by_cases h2:c.toNat≤122<;>simp[h2]<;>omega
  rwa [e] at this
 ·rw[decide_eq_false h,Bool.false_and];exact r145_2 (by omega)
theorem e135(c:UInt8):E 71 [.int .u8 ((c.toNat:Nat):Int)] [] (.bool (diB c)) []:=by
 unfold diB;by_cases h:48≤c.toNat
 ·have:=r135_1 (c:=c) (by omega)
  rw[decide_eq_true h,Bool.true_and];have e:decide (((c.toNat:Nat):Int)≤57)=decide (c.toNat≤57):=by by_cases h2:c.toNat≤57<;>simp[h2]<;>omega
  rwa [e] at this
 ·rw[decide_eq_false h,Bool.false_and];exact r135_2 (by omega)
theorem e144(c:UInt8):E 68 [.int .u8 ((c.toNat:Nat):Int)] [] (.bool (c != 10)) []:=by
 have:=r144 (c:=c)
 have e:(((c.toNat:Nat):Int) != 10)=(c != 10):=by
  by_cases h:c=10
  ·subst h;rfl
  ·rw[bne_iff_ne.2 h,bne_iff_ne];exact fun x=>h ((u8i c 10).1 x)
 rwa [e] at this
theorem e146(c:UInt8):E 70 [.int .u8 ((c.toNat:Nat):Int)] [] (.bool (woB c)) []:=by
 unfold woB;have h1:=e145 c;have h2:=e135 c;cases hl:leB c with
 |true=>rw[hl] at h1;exact r146_1 h1
 |false=>
  rw[hl] at h1;cases hd:diB c with
  |true=>rw[hd] at h2;exact r146_2 h1 h2
  |false=>
   rw[hd] at h2;have:=r146_3 h1 h2
   have e:(((c.toNat:Nat):Int)==95)=(c==95):=by
    by_cases h:c=95
    ·subst h;rfl
    ·rw[beq_eq_false_iff_ne.2 h,beq_eq_false_iff_ne];exact fun x=>h ((u8i c 95).1 x)
   rw[e] at this;simpa using this
theorem getc{s:List UInt8}{i:Nat}(h:i<s.length):∃c l,s.drop i=c::l∧s[i]?=some c∧s.drop (i+1)=l:=by
 refine⟨s[i],s.drop (i+1),List.drop_eq_getElem_cons h,List.getElem?_eq_getElem h,rfl⟩
theorem e134{g:FuncId}(p:UInt8→Bool)(pg:pur g=true)(hg:∀c:UInt8,E g [.int .u8 ((c.toNat:Nat):Int)] [] (.bool (p c)) [])(s:List UInt8)(hs:s.length<1000000)(i:Nat)(hi:i≤s.length):
  E 67 [.str s,N i,.func g [] []] [] (N (i+runL p (s.drop i))) []:=by
 refine r134 ?_
 have key:∀(n i:Nat),i≤s.length→s.length - i=n→LL a67 0 [(0,some (.str s)),(1,some (N i)),(2,some (.func g [] []))] [] (.exit 0) [(1,some (N (i+runL p (s.drop i))))] []:=by
  intro n
  induction n with
  |zero=>
   intro i hi hn;have:s.drop i=[]:=by rw[List.drop_eq_nil_iff];omega
   rw[this];exact r134_l0_out1 (by omega)
  |succ n ih=>
   intro i hi hn;obtain⟨c,l,h1,h2,h3⟩:=getc (s:=s) (i:=i) (by omega)
   have hc:=hg c;rw[h1];cases hp:p c with
   |true=>
    rw[hp] at hc;have:=ih (i+1) (by omega) (by omega)
    rw[h3] at this;have e:runL p (c::l)=1+runL p l:=by simp[runL,List.takeWhile_cons,hp];omega
    rw[e,show i+(1+runL p l)=i+1+runL p l by omega]
    exact r134_l0_next1 (by omega) h2 pg hc (by omega) this
   |false=>
    rw[hp] at hc;have e:runL p (c::l)=0:=by simp[runL,List.takeWhile_cons,hp]
    rw[e];exact r134_l0_out2 (by omega) h2 pg hc
 exact key _ i hi rfl
theorem sk_com:∀l:List UInt8,skN true l=runL (· != 10) l+skN false (l.drop (runL (· != 10) l))
 |[]=>rfl
 |c::l=>by
  by_cases h:c=10
  ·subst h;have:runL (· != 10) ((10:UInt8)::l)=0:=by simp[runL]
   rw[this];simp[skN,whB]
  ·have:runL (· != 10) (c::l)=1+runL (· != 10) l:=by simp[runL,List.takeWhile_cons,h];omega
   rw[this,skN,if_neg h,sk_com l,show 1+runL (· != 10) l=runL (· != 10) l+1 by omega,List.drop_succ_cons];omega
theorem e132(s:List UInt8)(hs:s.length<1000000)(i:Nat)(hi:i≤s.length):E 18 [.str s,N i] [] (N (i+skN false (s.drop i))) []:=by
 have key:∀(n i:Nat),i≤s.length→s.length - i≤n→
   LL a18 0 [(0,some (.str s)),(1,some (N i))] [] (.exit 0) [(1,some (N (i+skN false (s.drop i))))] [] ∨
   LL a18 0 [(0,some (.str s)),(1,some (N i))] [] .ret [(4,some (N (i+skN false (s.drop i))))] []:=by
  intro n
  induction n with
  |zero=>
   intro i hi hn;have:s.drop i=[]:=by rw[List.drop_eq_nil_iff];omega
   rw[this];exact .inl (AX2 (by omega))
  |succ n ih=>
   intro i hi hn;rcases Nat.lt_or_ge i s.length with hlt | hge
   ·obtain⟨c,l,h1,h2,h3⟩:=getc hlt;have hc:=e143 c;rw[h1];cases hw:whB c with
    |true=>
     rw[hw] at hc;have e:i+skN false (c::l)=i+1+skN false (s.drop (i+1)):=by rw[h3,skN,if_pos hw];omega
     rw[e];rcases ih (i+1) (by omega) (by omega) with h | h
     ·exact .inl (AwD (by omega) h2 hc (by omega) h)
     ·exact .inr (AwD (by omega) h2 hc (by omega) h)
    |false=>
     rw[hw] at hc;by_cases h35:c=35
     ·subst h35;have h134:=e134 (· != 10) rfl e144 s hs i hi;have hr:runL (· != 10) (s.drop i)=1+runL (· != 10) l:=by rw[h1];simp[runL,List.takeWhile_cons];omega
      have hle:=AQE (· != 10) l;have hll:l.length=s.length - (i+1):=by rw[←h3,List.length_drop]
      have e:i+skN false ((35:UInt8)::l)=i+runL (· != 10) (s.drop i)+skN false (s.drop (i+runL (· != 10) (s.drop i))):=by
       rw[hr,skN,if_neg (by rw[hw];simp),if_pos rfl,sk_com,←h3,List.drop_drop,h3]
       rw[show i+1+runL (fun x=>x != 10) l=i+(1+runL (fun x=>x != 10) l) by omega];omega
      rw[e];rcases ih (i+runL (· != 10) (s.drop i)) (by omega) (by omega) with h | h
      ·exact .inl (AwC (by omega) h2 hc rfl h134 h)
      ·exact .inr (AwC (by omega) h2 hc rfl h134 h)
     ·have e:skN false (c::l)=0:=by rw[skN,if_neg (by rw[hw];simp),if_neg h35]
      rw[e];exact .inr (r132_l0_out2 (by omega) h2 hc (fun h=>h35 ((u8i c 35).1 h)))
   ·have:s.drop i=[]:=by rw[List.drop_eq_nil_iff];omega
    rw[this];exact .inl (AX2 (by omega))
 rcases key _ i hi (Nat.le_refl _) with h | h
 ·exact r132_1 h
 ·exact r132_2 h
theorem sy148(s:List UInt8)(i:Nat){c:UInt8}(hc:s[i]?=some c):∀(n j:Nat),j+n=18→(∀k d,k<j→symL[k]?=some d→d≠c)→
  (symL.contains c=false∧LL a73 0 [(0,some (.str s)),(1,some (N i)),(44,some (.slice false 1 (symL.map by8))),(45,some (I 18)),(46,some (N j))] [] (.exit 0) [(0,some (.str s)),(1,some (N i)),(44,some (.slice false 1 (symL.map by8)))] []) ∨
  (symL.contains c=true∧LL a73 0 [(0,some (.str s)),(1,some (N i)),(44,some (.slice false 1 (symL.map by8))),(45,some (I 18)),(46,some (N j))] [] .ret [(4,some (I 1))] []):=by
 have hlen:symL.length=18:=rfl;intro n
 induction n with
 |zero=>
  intro j hj h;refine .inl ⟨?_,r148_l0_out1 (by omega)⟩
  rw[←Bool.not_eq_true,List.contains_iff_mem,List.mem_iff_getElem?]
  rintro⟨k,hk⟩
  have:=(List.getElem?_eq_some_iff.1 hk).1
  exact h k c (by omega) hk rfl
 |succ n ih=>
  intro j hj h;have hlt:j<symL.length:=by omega
  have hg:=List.getElem?_eq_getElem hlt
  by_cases hx:c=symL[j]
  ·refine .inr ⟨?_,r148_l0_out2 (by omega) hg hc ((u8i _ _).2 hx)⟩
   rw[List.contains_iff_mem,hx];exact List.getElem_mem hlt
  ·rcases ih (j+1) (by omega) (fun k d hk hd=>by
    rcases Nat.lt_or_ge k j with h' | h'
    ·exact h k d h' hd
    ·have:k=j:=by omega
     subst this;rw[hg] at hd;cases hd;exact fun e=>hx e.symm) with⟨h1,h2⟩ | ⟨h1,h2⟩
   ·exact .inl ⟨h1,AwA (by omega) hg hc (fun e=>hx ((u8i _ _).1 e)) (by omega) h2⟩
   ·exact .inr ⟨h1,AwA (by omega) hg hc (fun e=>hx ((u8i _ _).1 e)) (by omega) h2⟩
theorem e148(s:List UInt8)(hs:s.length<1000000)(i:Nat)(hi:i<s.length):E 73 [.str s,N i] [] (N (symN (s.drop i))) []:=by
 obtain⟨c,l,h1,h2,h3⟩:=getc hi;have hsy:=sy148 s i h2 18 0 rfl (fun k d hk=>by omega)
 rw[h1]
 have fin:∀{r:Nat},(r=if symL.contains c then 1 else 0)→(∀(L:LL a73 0 [(0,some (.str s)),(1,some (N i)),(44,some (.slice false 1 (symL.map by8))),(45,some (I 18)),(46,some (I 0))] [] (.exit 0) [(0,some (.str s)),(1,some (N i)),(44,some (.slice false 1 (symL.map by8)))] []),E 73 [.str s,N i] [] (I 0) [])→
   (∀(L:LL a73 0 [(0,some (.str s)),(1,some (N i)),(44,some (.slice false 1 (symL.map by8))),(45,some (I 18)),(46,some (I 0))] [] .ret [(4,some (I 1))] []),E 73 [.str s,N i] [] (I 1) [])→E 73 [.str s,N i] [] (N r) []:=by
  intro r hr f1 f2;rcases hsy with⟨a1,a2⟩ | ⟨a1,a2⟩
  ·rw[hr,a1];exact f1 a2
  ·rw[hr,a1];exact f2 a2
 rcases Nat.lt_or_ge (i+1) s.length with hlt | hge
 ·obtain⟨d,l',g1,g2,g3⟩:=getc hlt;rw[h3] at g1;have hh:l.head?=some d:=by rw[g1];rfl
  by_cases hd:d=61
  ·subst hd;have two:c=61∨c=33∨c=60∨c=62→symN (c::l)=2:=fun h=>by rw[symN,if_pos ⟨hh,h⟩]
   by_cases c1:c=61
   ·rw[two (.inl c1)];subst c1;exact r148_3 (by omega) (by omega) g2 rfl h2 rfl
   by_cases c2:c=33
   ·rw[two (.inr (.inl c2))];subst c2;exact r148_6 (by omega) (by omega) g2 rfl h2 (by decide) rfl
   by_cases c3:c=60
   ·rw[two (.inr (.inr (.inl c3)))];subst c3;exact r148_7 (by omega) (by omega) g2 rfl h2 (by decide) (by decide) rfl
   by_cases c4:c=62
   ·rw[two (.inr (.inr (.inr c4)))];subst c4;exact r148_8 (by omega) (by omega) g2 rfl h2 (by decide) (by decide) (by decide) rfl
   have n1:((c.toNat:Nat):Int)≠61:=fun h=>c1 ((u8i c 61).1 h)
   have n2:((c.toNat:Nat):Int)≠33:=fun h=>c2 ((u8i c 33).1 h)
   have n3:((c.toNat:Nat):Int)≠60:=fun h=>c3 ((u8i c 60).1 h)
   have n4:((c.toNat:Nat):Int)≠62:=fun h=>c4 ((u8i c 62).1 h)
   exact fin (by rw[symN,if_neg (by simp[c1,c2,c3,c4])]) (fun L=>r148_9 (by omega) (by omega) g2 rfl h2 n1 n2 n3 n4 L) (fun L=>r148_10 (by omega) (by omega) g2 rfl h2 n1 n2 n3 n4 L)
  ·have nd:((d.toNat:Nat):Int)≠61:=fun h=>hd ((u8i d 61).1 h)
   exact fin (by rw[symN,if_neg (by rw[hh];intro h;exact hd (Option.some.inj h.1))]) (fun L=>r148_4 (by omega) (by omega) g2 nd L) (fun L=>r148_5 (by omega) (by omega) g2 nd L)
 ·have hl:l=[]:=by rw[←h3,List.drop_eq_nil_iff];omega
  subst hl;exact fin (by rw[symN,if_neg (by simp)]) (fun L=>r148_1 (by omega) (by omega) L) (fun L=>r148_2 (by omega) (by omega) L)
theorem e147(w:List UInt8):E 72 [.str w] [] (.bool (kwL.contains w)) []:=by
 refine r147 ?_
 have hf:∀ks:List (List UInt8),findKey (.s w) (ks.map Ky.s) (ks.map fun _=>PV.bool true)=if ks.contains w then some (.bool true) else none:=by
  intro ks
  induction ks with
  |nil=>rfl
  |cons a ks ih=>
   simp only[List.map_cons,findKey,Ky.s.injEq];by_cases h:a=w
   ·subst h;simp
   ·rw[if_neg h,ih];have:(w==a)=false:=by rw[beq_eq_false_iff_ne];exact fun e=>h e.symm
    rw[List.contains_cons,this,Bool.false_or]
 show(lookV (.bool false) false false kwMap (.str w)).map (fun v=>[some v])=_
 have hall:(kwL.map Ky.s).all (sameKind (.s w))=true:=rfl;unfold kwMap lookV;simp only[kyOf,hall,Ky.isInt,and_self,if_true,hf];cases kwL.contains w<;>rfl
theorem wr133(s:List UInt8)(hs:s.length<1000000):∀(n i:Nat),i≤s.length→s.length - i=n→LL a19 0 [(0,some (.str s)),(8,some (N i))] [] (.exit 1) [(0,some (.str s)),(8,some (N (i+wrN (s.drop i))))] []:=by
 intro n
 induction n with
 |zero=>
  intro i hi hn;have:s.drop i=[]:=by rw[List.drop_eq_nil_iff];omega
  rw[this];exact r133_l0_out1 (by omega)
 |succ n ih=>
  intro i hi hn;obtain⟨c,l,h1,h2,h3⟩:=getc (s:=s) (i:=i) (by omega)
  have a1:=e143 c;have a2:=e145 c;have a3:=e135 c;have a4:=e148 s hs i (by omega)
  rw[h1] at a4 ⊢;have stop:stopB c l=true→wrN (c::l)=0:=fun h=>by rw[wrN,if_pos h]
  cases hw:whB c with
  |true=>rw[hw] at a1;rw[stop (by simp[stopB,hw])];exact r133_l0_out2 (by omega) h2 a1
  |false=>
   rw[hw] at a1;by_cases h35:c=35
   ·rw[stop (by simp[stopB,h35])];subst h35;exact r133_l0_out3 (by omega) h2 a1 rfl
   have n35:((c.toNat:Nat):Int)≠35:=fun h=>h35 ((u8i c 35).1 h)
   cases hl:leB c with
   |true=>rw[hl] at a2;rw[stop (by simp[stopB,hl])];exact r133_l0_out4 (by omega) h2 a1 n35 a2
   |false=>
    rw[hl] at a2;cases hd:diB c with
    |true=>rw[hd] at a3;rw[stop (by simp[stopB,hd])];exact r133_l0_out5 (by omega) h2 a1 n35 a2 a3
    |false=>
     rw[hd] at a3;by_cases hy:symN (c::l)=0
     ·have e:wrN (c::l)=1+wrN l:=by rw[wrN,if_neg];simp[stopB,hw,h35,hl,hd,hy]
      have:=ih (i+1) (by omega) (by omega)
      rw[h3] at this;rw[e,show i+(1+wrN l)=i+1+wrN l by omega]
      exact r133_l0_next1 (by omega) h2 a1 n35 a2 a3 a4 (by omega) (by omega) this
     ·rw[stop (by simp[stopB,hy])]
      exact r133_l0_out6 (by omega) h2 a1 n35 a2 a3 a4 (by omega)
theorem tokN_le{l:List UInt8}(h:l≠[]):0<(tokN l).2∧(tokN l).2≤l.length:=by
 cases l with
 |nil=>exact absurd rfl h
 |cons c l=>
  unfold tokN;simp only[List.headD_cons,List.tail_cons];by_cases hl:leB c=true
  ·simp only[hl,if_true];refine⟨?_,AQE _ _⟩
   have:woB c=true:=by simp[woB,hl]
   simp[runL,this]
  ·by_cases hd:diB c=true
   ·simp only[hl,hd,if_true,Bool.false_eq_true,if_false];refine⟨?_,AQE _ _⟩
    simp[runL,hd]
   ·by_cases hs:0<symN (c::l)
    ·simp only[hl,hd,hs,if_true,Bool.false_eq_true,if_false];exact⟨trivial,symN_le _⟩
    ·have:=wrN_le l;simp only[hl,hd,hs,Bool.false_eq_true,if_false,List.length_cons];omega
theorem e133(s:List UInt8)(hs:s.length<1000000)(i:Nat)(hi:i<s.length):E 19 [.str s,N i] [] (.tuple [N (tokN (s.drop i)).1,N (i+(tokN (s.drop i)).2)]) []:=by
 obtain⟨c,l,h1,h2,h3⟩:=getc hi;have a2:=e145 c;have a3:=e135 c;unfold tokN;have hh:(s.drop i).headD 0=c:=by rw[h1];rfl
 have ht:(s.drop i).tail=l:=by rw[h1];rfl
 rw[hh,ht];cases hl:leB c with
 |true=>
  rw[hl] at a2;have a4:=e134 woB rfl e146 s hs i (by omega)
  have hle:=AQE woB (s.drop i);rw[List.length_drop] at hle;have a5:=p_ssl s i (i+runL woB (s.drop i)) (by omega) (by omega)
  rw[show i+runL woB (s.drop i) - i=runL woB (s.drop i) by omega] at a5
  have a6:=e147 ((s.drop i).take (runL woB (s.drop i)));simp only[if_true];cases hk:kwL.contains ((s.drop i).take (runL woB (s.drop i))) with
  |true=>rw[hk] at a6;exact r133_1 h2 a2 a4 a5 a6
  |false=>rw[hk] at a6;exact r133_2 h2 a2 a4 a5 a6
 |false=>
  rw[hl] at a2;simp only[Bool.false_eq_true,if_false];cases hd:diB c with
  |true=>
   rw[hd] at a3;simp only[if_true];exact r133_3 h2 a2 a3 (e134 diB rfl e135 s hs i (by omega))
  |false=>
   rw[hd] at a3;simp only[Bool.false_eq_true,if_false];have a4:=e148 s hs i hi;have:=symN_le (s.drop i);rw[List.length_drop] at this;by_cases hy:0<symN (s.drop i)
   ·rw[if_pos hy];exact r133_4 h2 a2 a3 a4 (by omega) (by omega) (by omega)
   ·rw[if_neg hy];have a5:=wr133 s hs _ (i+1) (by omega) rfl
    rw[h3] at a5;have:=r133_5 h2 a2 a3 a4 (by omega) (by omega) a5
    rwa [show i+1+wrN l=i+(1+wrN l) by omega] at this
theorem sc97(s:List UInt8)(hs:s.length<1000000):∀(n f:Nat) (tl:List Tk),f≤s.length→s.length - f<n→tl.length+n≤2000000→
  LL a6 0 [(0,some (.str s)),(4,some (accP 4 (tl.map Tk.pv))),(5,some (N f))] [] .ret [(2,some (accP 4 ((tl++scanF n (s.drop f) f).map Tk.pv))),(3,some (I 0))] []
 |0,f,tl,_,h,_=>by omega
 |n+1,f,tl,hf,h,hn=>by
  have a1:=e132 s hs f hf;have hk:=AXW false (s.drop f);rw[List.length_drop] at hk;have hm:(tl.map Tk.pv).length+1≤AqC:=by rw[List.length_map];unfold AqC;omega
  rw[scanF];by_cases he:(s.drop f).drop (skN false (s.drop f))=[]
  ·simp only[he,if_true,List.map_append];rw[List.drop_drop,List.drop_eq_nil_iff] at he;exact r97_l0_out1 (m2:=f+skN false (s.drop f)) a1 (by omega) hm
  ·simp only[he,if_false];rw[List.drop_drop] at he
   have hlt:f+skN false (s.drop f) < s.length:=by
    rcases Nat.lt_or_ge (f+skN false (s.drop f)) s.length with h' | h'
    ·exact h'
    ·exact absurd (List.drop_eq_nil_iff.2 (by omega)) he
   have a2:=e133 s hs (f+skN false (s.drop f)) hlt;have ht:=tokN_le he;rw[List.length_drop] at ht;have:=sc97 s hs n (f+skN false (s.drop f)+(tokN (s.drop (f+skN false (s.drop f)))).2) (tl++[⟨(tokN (s.drop (f+skN false (s.drop f)))).1,f,f+skN false (s.drop f),f+skN false (s.drop f)+(tokN (s.drop (f+skN false (s.drop f)))).2⟩]) (by omega) (by omega) (by simp;omega)
   rw[List.append_assoc,List.map_append (l₁:=tl) (l₂:=[_])] at this;simp only[List.drop_drop];exact r97_l0_next1 a1 (by omega) a2 hm this
theorem scanF_ne(n:Nat)(l:List UInt8)(f:Nat):scanF (n+1) l f≠[]:=by
 simp only[scanF];split<;>simp
theorem e97(s:List UInt8)(hs:s.length≤4096):E 6 [.str s] [] (.tuple [.slice false 4 ((scanT s).map Tk.pv),I 0]) []:=by
 have h0:=sc97 s (by omega) (s.length+1) 0 [] (by omega) (by omega) (by simp;omega)
 have h1:=r97_2 (by omega) h0
 have e:accD 4 (([]++scanF (s.length+1) (s.drop 0) 0).map Tk.pv)=.slice false 4 ((scanT s).map Tk.pv):=by
  show accD 4 ((scanT s).map Tk.pv)=_;cases hc:scanT s with
  |nil=>exact absurd hc (scanF_ne _ _ _)
  |cons t ts=>rfl
 rwa [e] at h1
end Go.Abs.Z

namespace Go.Abs.Z
open Go.Proofs Go.RowKit
def aS(H T:Sto)(g:Nat)(Ds:List Dg):Sto:=H++[.arrv g 5 (Ds.map Dg.pv)]::T
section
variable{H T:Sto}{g n j:Nat}{Ds:List Dg}{d:Dg}
theorem aS_get:(aS H T g Ds)[H.length]?=some [.arrv g 5 (Ds.map Dg.pv)]:=by
 unfold aS;rw[List.getElem?_append_right (Nat.le_refl _),Nat.sub_self];rfl
theorem aS_set{x:List PV}:(aS H T g Ds).set H.length x=H++x::T:=by
 unfold aS;rw[List.set_append_right _ _ (Nat.le_refl _),Nat.sub_self];rfl
theorem idxA{id:Nat}(h:j<n):semP (.idx 5) [.arr id g 0 n 5,N j]=some [some (.aptr id g 5 j 0)]:=by
 show(if 5=5∧(0:Int)≤(j:Int)∧(j:Int) < n then some (PV.aptr id g 5 (0+(j:Int).toNat) 0) else none).map (fun v=>[some v])=_
 rw[if_pos ⟨rfl,by omega,by omega⟩,Int.toNat_natCast,Nat.zero_add];rfl
theorem ldA(h:Ds[j]?=some d):semR (.ld 5 true) [.aptr H.length g 5 j 0] (aS H T g Ds)=some [some d.pv]:=by
 simp only[semR,aS_get,arrOf,and_self,if_true,List.getElem?_map,h,Option.map_some]
 rfl
theorem stA(h:j<Ds.length):OpEv pur run (.w (.st 5)) [.aptr H.length g 5 j 0,d.pv] (aS H T g Ds) [] (aS H T g (Ds.set j d)):=by
 refine⟨0,fun n _=>?_⟩
 have he:(Ds.map Dg.pv)[j]?=some (Ds[j].pv):=by rw[List.getElem?_map,List.getElem?_eq_getElem h];rfl
 show semW pur (run n) (.st 5) [.aptr H.length g 5 j 0,d.pv] (aS H T g Ds)=_;simp only[semW,aS_get,arrOf,and_self,if_true,he];rw[if_pos ⟨rfl,rfl,rfl⟩];have:upd Ds[j].pv 0 d.pv.Aq0=some d.pv:=rfl;rw[this,Option.map_some,aS_set];unfold aS;rw[List.map_set]
end
theorem subn(a b:Nat)(h:b≤a)(hj:a<2000000000):semP (.bin .sub 0) [.int .i64 (a:Nat),.int .i64 (b:Nat)]=some [some (.int .i64 ((a - b:Nat):Int))]:=sub_nat a b h hj
theorem cvtU(a:Nat)(h:a<2000000000):semP (.cvt .u64) [.int .i64 (a:Nat)]=some [some (.int .u64 (a:Nat))]:=by
 apply cvt_of;simp[IntKind.wrap,IntKind.bits,IntKind.signed];omega
theorem cvtI(a:Nat)(h:a<2000000000):semP (.cvt .i64) [.int .u64 (a:Nat)]=some [some (.int .i64 (a:Nat))]:=by
 apply cvt_of;simp[IntKind.wrap,IntKind.bits,IntKind.signed];omega
theorem muln(a b:Nat)(h:a * b<2000000000):semP (.bin .mul 0) [.int .i64 (a:Nat),.int .i64 (b:Nat)]=some [some (.int .i64 ((a * b:Nat):Int))]:=by
 apply mul_of;rw[←Int.natCast_mul];simp[IntKind.wrap,IntKind.bits,IntKind.signed];omega
theorem shr1(a:Nat)(h:a<2000000000):semP (.bin .shr 0) [.int .u64 (a:Nat),.int .u64 1]=some [some (.int .u64 ((a / 2:Nat):Int))]:=by
 have e:(a:Int).fdiv (2 ^ min 1 IntKind.u64.bits)=((a / 2:Nat):Int):=by
  show(a:Int).fdiv 2=_;rw[Int.fdiv_eq_ediv_of_nonneg _ (by decide)];rfl
 have:Go.binOp .shr 0 (.int .u64 (a:Int)) (.int .u64 1)=.pure (.int .u64 ((a / 2:Nat):Int)):=by
  show Sem.pure (Value.int .u64 ((a:Int).fdiv (2 ^ min 1 IntKind.u64.bits)))=_;rw[e]
 show(match Go.binOp .shr 0 (.int .u64 (a:Int)) (.int .u64 1) with
    |.pure (.int k' n)=>some (PV.int k' n)
    |_=>none).map (fun v=>[some v])=_
 rw[this];rfl
end Go.Abs.Z
