/- A part of the proof: D4 D5 D6 D7 D11 D12 D13 D14. -/
import Derived.Test.YtngalibidopjlaaGreatDoorKba
import Derived.Test.YtngalibidopjlaaGreatDoorKaz
import Derived.Test.YtngalibidopjlaaGreatDoorKbb

set_option linter.unusedVariables false
set_option linter.unusedSimpArgs false
namespace Go.Abs.Z
open Go.Proofs Go.RowKit
mutual

def trP(ls:List Tk):AT→Tr
 |.mk kd tx f k _ ks=>.mk kd tx (match trPs ls ks with | []=>if f<k then(tA ls f:Nat) else(en ls k:Nat) | u::_=>min (if f<k then((tA ls f:Nat):Int) else(en ls k:Nat)) u.st) (en ls k:Nat) ks.isEmpty (trPs ls ks)
def trPs(ls:List Tk):List AT→List Tr
 |[]=>[]
 |x::xs=>trP ls x::trPs ls xs
end
theorem trPs_map(ls:List Tk):∀xs:List AT,trPs ls xs=xs.map (trP ls)
 |[]=>rfl
 |x::xs=>by rw[trPs,trPs_map ls xs];rfl
theorem AkO(ls:List Tk)(xs:List AT)(x:AT):trPs ls (xs++[x])=trPs ls xs++[trP ls x]:=by simp[trPs_map]
theorem trPs_len(ls:List Tk)(xs:List AT):(trPs ls xs).length=xs.length:=by simp[trPs_map]
abbrev rf:PV:=.ref 0 0
abbrev Z0:PV:=.agg [I 0,.str [],I 0,I 0,.nils]
abbrev sl1(ws:List (List UInt8)):PV:=.slice false 1 (ws.map PV.str)
section
variable{s:List UInt8}{ls:List Tk}{m:Nat}{B:Sto}{k f:Nat}{D:List AD}
theorem nd0(H:Toks s ls m)(hf:f≤k)(hk:k≤m)(kd:Nat)(tx:List UInt8)(b:Bool):E 139 [rf,N kd,.str tx,N f,N (en ls f),.nils] (PS4 s ls B k D) (trP ls (.mk kd tx f k b [])).pv (PS4 s ls B k D):=by
 by_cases h:f<k
 ·obtain⟨t,ht⟩:=H.at (k:=f) (by omega)
  have:=r78n_1 (s:=s) (l:=en ls k) (wr:=wrP (B.length+1) D) (bf:=bfP ls D) (T:=B++arS ls D) (kd:=(kd:Int)) (tx:=tx) (la:=en ls f) (k:=k) (by omega) ht
  have e:(trP ls (.mk kd tx f k b [])).pv=.agg [N kd,.str tx,N t.a,N (en ls k),.nils]:=by
   rw[trP];simp only[trPs,if_pos h,tA_eq ht];rfl
  rw[e];exact this
 ·have hfk:f=k:=by omega
  subst hfk;have:=r78n_2 (s:=s) (ls:=ls) (l:=en ls f) (wr:=wrP (B.length+1) D) (bf:=bfP ls D) (T:=B++arS ls D) (kd:=(kd:Int)) (tx:=tx) (la:=en ls f) (k:=f) (fi:=f) (by omega)
  have e:(trP ls (.mk kd tx f f b [])).pv=.agg [N kd,.str tx,N (en ls f),N (en ls f),.nils]:=by
   rw[trP];simp only[trPs,if_neg h];rfl
  rw[e];exact this
theorem nd1(H:Toks s ls m)(hf:f≤k)(hk:k≤m)(kd:Nat)(tx:List UInt8)(b:Bool)(us:List AT)(hu:us≠[]):E 139 [rf,N kd,.str tx,N f,N (en ls f),.slice false 5 (Tr.pvs (trPs ls us))] (PS4 s ls B k D) (trP ls (.mk kd tx f k b us)).pv (PS4 s ls B k D):=by
 cases us with
 |nil=>exact absurd rfl hu
 |cons u us=>
  have hl:(((trPs ls (u::us)).length:Nat):Int) > 0:=by simp[trPs]
  have h0:(trPs ls (u::us))[0]?=some (trP ls u):=rfl;by_cases h:f<k
  ·obtain⟨t,ht⟩:=H.at (k:=f) (by omega)
   have:=r78_1 (s:=s) (l:=en ls k) (wr:=wrP (B.length+1) D) (bf:=bfP ls D) (T:=B++arS ls D) (kd:=(kd:Int)) (tx:=tx) (la:=en ls f) (k:=k) (by omega) ht hl h0
   have e:(trP ls (.mk kd tx f k b (u::us))).pv=.agg [N kd,.str tx,I (min ((t.a:Nat):Int) (trP ls u).st),N (en ls k),.slice false 5 (Tr.pvs (trPs ls (u::us)))]:=by
    rw[trP];simp only[trPs,if_pos h,tA_eq ht];rfl
   rw[e];exact this
  ·have hfk:f=k:=by omega
   subst hfk;have:=r78_3 (s:=s) (ls:=ls) (l:=en ls f) (wr:=wrP (B.length+1) D) (bf:=bfP ls D) (T:=B++arS ls D) (kd:=(kd:Int)) (tx:=tx) (la:=en ls f) (k:=f) (fi:=f) (by omega) hl h0
   have e:(trP ls (.mk kd tx f f b (u::us))).pv=.agg [N kd,.str tx,I (min ((en ls f:Nat):Int) (trP ls u).st),N (en ls f),.slice false 5 (Tr.pvs (trPs ls (u::us)))]:=by
    rw[trP];simp only[trPs,if_neg h];rfl
   rw[e];exact this
theorem isB(H:Toks s ls m)(hk:k≤m)(ws:List (List UInt8)){b:Bool}(hc:ws.contains (wAt s ls k).2=b)(hw:(ws.all spW.contains&&decide (ws.length<1000))=true:=by decide):E 60 [rf,sl1 ws] (PS4 s ls B k D) (.bool b) (PS4 s ls B k D):=by
 simp only[Bool.and_eq_true,decide_eq_true_eq] at hw;have:=p50 (B:=B) (D:=D) H hk ws hw.2 hw.1
 rwa [hc] at this
theorem kdT(H:Toks s ls m)(hk:k≤m)(j:Nat)(hc:(wAt s ls k).1=j):E 59 [rf,N j] (PS4 s ls B k D) (.bool true) (PS4 s ls B k D):=by
 have:=p49 (B:=B) (D:=D) H hk j
 rwa [decide_eq_true hc] at this
theorem kdF(H:Toks s ls m)(hk:k≤m)(j:Nat)(hc:(wAt s ls k).1≠j):E 59 [rf,N j] (PS4 s ls B k D) (.bool false) (PS4 s ls B k D):=by
 have:=p49 (B:=B) (D:=D) H hk j
 rwa [decide_eq_false hc] at this
theorem dgt_eq(x:List UInt8)(hl:x.length<1000000):E 236 [.str x] [] (.str (dgt x)) []:=by
 have key:∀(n:Nat) (x:List UInt8),x.length=n→n<1000000→LL a118 0 [(0,some (.str x)),(1,some (.int .u8 48))] [] (.exit 0) [(0,some (.str (x.dropWhile (·==48))))] []:=by
  intro n
  induction n with
  |zero=>
   intro x hx _;have:x=[]:=List.length_eq_zero_iff.1 hx;subst this;exact r158_l0_out1 (by simp)
  |succ n ih=>
   intro x hx hn;cases x with
   |nil=>simp at hx
   |cons c x=>
    by_cases h48:c=48
    ·subst h48;refine r158_l0_next1 (c2:=48) (s2:=x) (by simp) rfl (by rfl) ?_ (ih x (by simpa using hx) (by omega))
     have h1:(1:Int)≤((((48:UInt8)::x).length:Nat):Int):=by simp;omega
     simp[semP,cutB,h1];simpa using h1
    ·have:(c::x).dropWhile (·==48)=c::x:=by
      have hb:(c==48)=false:=by simpa using h48
      rw[List.dropWhile_cons,hb];rfl
     rw[this];refine r158_l0_out2 (c2:=c) (by simp) rfl ?_
     intro e;apply h48;have:c.toNat=48:=by omega
     exact UInt8.toNat_inj.1 this
 have h155:E 128 [.str x,.str [48]] [] (.str (x.dropWhile (·==48))) []:=by
  by_cases hx:x=[]
  ·subst hx;exact r155_1 rfl
  ·exact r155_2 hx (r158 (key x.length x rfl hl))
 unfold dgt;by_cases h1:x.dropWhile (·==48)=[]
 ·by_cases h2:x=[]
  ·simp only[h1,h2,ne_eq,not_true_eq_false,and_false,if_false];rw[h1,h2] at h155;subst h2;exact r151_2 h155 rfl rfl
  ·simp only[h1,h2,ne_eq,not_false_eq_true,and_true,if_true];exact r151_3 h155 h1 h2
 ·simp only[h1,false_and,if_false];exact r151_1 h155 h1
end
section
variable{s:List UInt8}{ls:List Tk}{m:Nat}{B:Sto}{k f:Nat}{D:List AD}{c:NT→Nat→List AD→Ans3}{r:Rs×Nat×List AD}{p q:Pg}
abbrev G4(s:List UInt8)(ls:List Tk)(m:Nat)(c:NT→Nat→List AD→Ans3)(r:Rs×Nat×List AD)(p:Pg)(k:Nat)(D:List AD):Prop:=G3 (wAt s ls) m c r p k D
theorem w5(H:Toks s ls m):(wAt s ls m).1=5:=by rw[H.end']
theorem q53(H:Toks s ls m){e:Nat}{t:List UInt8}(h:G4 s ls m c r (.report e t p) k D):E 63 [rf,N e,.str t] (PS4 s ls B k D) (.tuple []) (PS4 s ls B k (rp D e k t))∧G4 s ls m c r p k (rp D e k t):=
 ⟨p53 H h.le (fun d hd=>Nat.le_trans (h.ok.2 d hd) h.le) (by have:=h.ok.len;have:=h.le;have:=H.big;omega) e t,h.rep⟩
theorem qread(H:Toks s ls m)(h:G4 s ls m c r (.read p) k D):E 143 [rf] (PS4 s ls B k D) (.str (wAt s ls k).2) (PS4 s ls B (k+1) D)∧G4 s ls m c r p (k+1) D:=by
 obtain⟨h1,h2⟩:=h.read (w5 H);exact⟨p76 H h1,h2⟩
theorem qrd(H:Toks s ls m){g:List UInt8→Pg}(h:G4 s ls m c r (Pg.rd g) k D):E 143 [rf] (PS4 s ls B k D) (.str (wAt s ls k).2) (PS4 s ls B (k+1) D)∧G4 s ls m c r (g (wAt s ls k).2) (k+1) D:=by
 obtain⟨h1,h2⟩:=h.rd (w5 H);exact⟨p76 H h1,h2⟩
theorem qac(H:Toks s ls m)(x:List UInt8)(h:G4 s ls m c r (Pg.ifW [x] (.read p) q) k D)(hx:spW.contains x=true:=by decide):
  (E 178 [rf,.str x] (PS4 s ls B k D) (.bool true) (PS4 s ls B (k+1) D)∧G4 s ls m c r p (k+1) D)∨(E 178 [rf,.str x] (PS4 s ls B k D) (.bool false) (PS4 s ls B k D)∧G4 s ls m c r q k D):=by
 have hw:([x].all spW.contains&&decide ([x].length<1000))=true:=by simp[hx];simpa using hx
 rcases h.ifW with⟨hc,h⟩ | ⟨hc,h⟩
 ·obtain⟨h1,h2⟩:=qread (B:=B) H h;exact .inl ⟨r123_1 (isB H (by have:=h2.le;omega) [x] hc hw) h1,h2⟩
 ·exact .inr ⟨r123_2 (isB H h.le [x] hc hw),h⟩
theorem qxp(H:Toks s ls m)(x:List UInt8)(h:G4 s ls m c r (Pg.xp x p) k D)(hx:spW.contains x=true:=by decide):
  ∃k1 D1,k≤k1∧E 135 [rf,.str x] (PS4 s ls B k D) (.tuple []) (PS4 s ls B k1 D1)∧G4 s ls m c r p k1 D1:=by
 rcases qac (B:=B) H x h hx with⟨h1,h2⟩ | ⟨h1,h2⟩
 ·exact⟨_,_,by omega,r103_1 h1,h2⟩
 ·obtain⟨h3,h4⟩:=q53 (B:=B) H h2;exact⟨_,_,Nat.le_refl _,r103_2 h1 h3,h4⟩
theorem qnm(H:Toks s ls m){g:List UInt8→Pg}(h:G4 s ls m c r (Pg.nm g) k D):∃x k1 D1,k≤k1∧E 136 [rf] (PS4 s ls B k D) (.str x) (PS4 s ls B k1 D1)∧G4 s ls m c r (g x) k1 D1:=by
 rcases h.ifK with⟨hc,h⟩ | ⟨hc,h⟩
 ·obtain⟨h1,h2⟩:=qrd (B:=B) H h;exact⟨_,_,_,by omega,r104_1 (kdT H (by have:=h2.le;omega) 0 hc) h1,h2⟩
 ·obtain⟨h3,h4⟩:=q53 (B:=B) H h;exact⟨_,_,_,Nat.le_refl _,r104_2 (kdF H h.le 0 hc) h3,h4⟩
theorem wd_len(H:Toks s ls m)(k:Nat):(wAt s ls k).2.length<1000000:=by
 have:=H.small;unfold wAt;split
 ·simp[wd];omega
 ·simp
theorem qnum(H:Toks s ls m){g:List UInt8→Pg}(h:G4 s ls m c r (Pg.num g) k D):∃x k1 D1,k≤k1∧E 182 [rf] (PS4 s ls B k D) (.str x) (PS4 s ls B k1 D1)∧G4 s ls m c r (g x) k1 D1:=by
 rcases h.ifK with⟨hc,h⟩ | ⟨hc,h⟩
 ·obtain⟨h1,h2⟩:=qrd (B:=B) H h;exact⟨_,_,_,by omega,r140_1 (kdT H (by have:=h2.le;omega) 2 hc) h1 (dgt_eq _ (wd_len H k)),h2⟩
 ·obtain⟨h3,h4⟩:=q53 (B:=B) H h;exact⟨_,_,_,Nat.le_refl _,r140_2 (kdF H h.le 2 hc) h3,h4⟩
theorem qnone(H:Toks s ls m){g:AT→Pg}(h:G4 s ls m c r (Pg.nop g) k D):∃x,E 181 [rf] (PS4 s ls B k D) (trP ls x).pv (PS4 s ls B k D)∧G4 s ls m c r (g x) k D:=
 ⟨_,r124 p75 (nd0 H (Nat.le_refl _) h.le 0 [] false),h.mrk.bd⟩
theorem qmiss(H:Toks s ls m){g:AT→Pg}(h:G4 s ls m c r (Pg.miss g) k D):∃x,E 179 [rf] (PS4 s ls B k D) (trP ls x).pv (PS4 s ls B k D)∧G4 s ls m c r (g x) k D:=
 ⟨_,r138 p75 (nd0 H (Nat.le_refl _) h.le 1 [] false),h.mrk.bd⟩
theorem qwr(H:Toks s ls m){g:AT→Pg}(h:G4 s ls m c r (written g) k D):∃x k1 D1,k≤k1∧E 141 [rf] (PS4 s ls B k D) (trP ls x).pv (PS4 s ls B k1 D1)∧G4 s ls m c r (g x) k1 D1:=by
 rcases qac (B:=B) H [58] h with⟨a1,h⟩ | ⟨a1,h⟩
 ·have hk1:k+1≤m:=h.le;have h:=h.mrk;rcases qac (B:=B) H wInt h with⟨a2,h⟩ | ⟨a2,h⟩
  ·rcases qac (B:=B) H [91] h with⟨a3,h⟩ | ⟨a3,h⟩
   ·obtain⟨x,k1,D1,l1,a4,h⟩:=qnum (B:=B) H h;obtain⟨k2,D2,l2,a5,h⟩:=qxp (B:=B) H [93] h;exact⟨_,_,_,by omega,r108_2 a1 p75 a2 a3 a4 a5 (nd0 H (by omega) h.le 10 x false),h.bd⟩
   ·exact⟨_,_,_,by omega,r108_3 a1 p75 a2 a3 (nd0 H (by omega) h.le 9 wInt false),h.bd⟩
  ·rcases qac (B:=B) H wBool h with⟨a3,h⟩ | ⟨a3,h⟩
   ·exact⟨_,_,_,by omega,r108_4 a1 p75 a2 a3 (nd0 H (by omega) h.le 9 wBool false),h.bd⟩
   ·rcases h.ifK with⟨hc,h⟩ | ⟨hc,h⟩
    ·obtain⟨a4,h⟩:=qrd (B:=B) H h;exact⟨_,_,_,by omega,r108_5 a1 p75 a2 a3 (kdT H hk1 0 hc) a4 (nd0 H (by omega) h.le 9 _ false),h.bd⟩
    ·obtain⟨a4,h4⟩:=q53 (B:=B) H h;obtain⟨x,a5,h5⟩:=qmiss (B:=B) H h4;exact⟨_,_,_,by omega,r108_6 a1 p75 a2 a3 (kdF H hk1 0 hc) a4 a5,h5⟩
 ·obtain⟨x,a2,h⟩:=qnone (B:=B) H h;exact⟨_,_,_,Nat.le_refl _,r108_1 a1 a2,h⟩
theorem qfield(H:Toks s ls m){g:AT→Pg}(h:G4 s ls m c r (fieldP g) k D):∃x k1 D1,k≤k1∧E 138 [rf] (PS4 s ls B k D) (trP ls x).pv (PS4 s ls B k1 D1)∧G4 s ls m c r (g x) k1 D1:=by
 obtain⟨x,k1,D1,l1,a1,h⟩:=qnm (B:=B) H h.mrk;obtain⟨k2,D2,l2,a2,h⟩:=qxp (B:=B) H [58] h;have hk2:=h.le;rcases h.ifW with⟨hc,h⟩ | ⟨hc,h⟩
 ·obtain⟨a3,h⟩:=qrd (B:=B) H h.mrk;exact⟨_,_,_,by omega,r106_1 p75 a1 a2 (isB H hk2 [wInt,wBool] hc) p75 a3 (nd0 H (by omega) h.le 9 _ false) (nd1 H (by omega) h.le 4 x false [_] (by simp)),h.bd.bd⟩
 ·obtain⟨a3,h⟩:=q53 (B:=B) H h;obtain⟨y,a4,h⟩:=qmiss (B:=B) H h;exact⟨_,_,_,by omega,r106_2 p75 a1 a2 (isB H hk2 [wInt,wBool] hc) a3 a4 (nd1 H (by omega) h.le 4 x false [_] (by simp)),h.bd⟩
theorem qparam(H:Toks s ls m){g:AT→Pg}(h:G4 s ls m c r (AJT g) k D):∃x k1 D1,k≤k1∧E 180 [rf] (PS4 s ls B k D) (trP ls x).pv (PS4 s ls B k1 D1)∧G4 s ls m c r (g x) k1 D1:=by
 rcases qac (B:=B) H wVar h.mrk with⟨a1,h⟩ | ⟨a1,h⟩
 ·obtain⟨x,k1,D1,l1,a2,h⟩:=qnm (B:=B) H h;obtain⟨t,k2,D2,l2,a3,h⟩:=qwr (B:=B) H h;exact⟨_,_,_,by omega,r139_1 p75 a1 a2 a3 (nd1 H (by omega) h.le 8 x false [_] (by simp)),h.bd⟩
 ·obtain⟨x,k1,D1,l1,a2,h⟩:=qnm (B:=B) H h;obtain⟨t,k2,D2,l2,a3,h⟩:=qwr (B:=B) H h;exact⟨_,_,_,by omega,r139_2 p75 a1 a2 a3 (nd1 H (by omega) h.le 7 x false [_] (by simp)),h.bd⟩
theorem qvar(H:Toks s ls m){g:AT→Pg}(h:G4 s ls m c r (Aj4 g) k D):∃x k1 D1,k≤k1∧E 276 [rf] (PS4 s ls B k D) (trP ls x).pv (PS4 s ls B k1 D1)∧G4 s ls m c r (g x) k1 D1:=by
 obtain⟨x,k1,D1,l1,a1,h⟩:=qnm (B:=B) H h.mrk;exact⟨_,_,_,by omega,r142 p75 a1 (nd0 H (by omega) h.le 20 x false),h.bd⟩
end
end Go.Abs.Z

namespace Go.Abs.Z
open Go.Proofs Go.RowKit
def exF:Nat→FuncId
 |1=>239
 |2=>265
 |3=>275
 |5=>280
 |6=>284
 |_=>285
def elF:El→FuncId
 |.fd=>138
 |.pa=>180
 |.ex=>239
abbrev fnv(g:FuncId):PV:=.func g [rf] []
def BoxQ(s:List UInt8)(ls:List Tk)(B:Sto)(q:Nat):Prop:=∀k D,semR (.ld 1 false) [.ref q 0] (PS4 s ls B k D)=some [some (.ref 0 0)]
def big4:Nat:=2000000000
def EP4(s:List UInt8)(ls:List Tk)(B:Sto)(n:Nat):NT→Nat→List AD→Rs→Nat→List AD→Prop
 |.ex L,k,D,v,k1,D1=>(L=1∨L=2∨L=3∨L=5∨L=6∨L=7)→E (exF L) [rf] (PS4 s ls B k D) (trP ls v.1).pv (PS4 s ls B k1 D1)
 |.lp L f x,k,D,v,k1,D1=>(L=1∨L=2∨L=5∨L=6)→f≤k→
   LL a264 0 [(0,some rf),(1,some (fnv (exF (L+1)))),(2,some (sl1 (opL L))),(6,some Z0),(7,some (N f)),(8,some (N (en ls f))),(9,some (trP ls x).pv)] (PS4 s ls B k D) (.exit 0)
    [(0,some rf),(1,some (fnv (exF (L+1)))),(6,some Z0),(9,some (trP ls v.1).pv)] (PS4 s ls B k1 D1)
 |.tl e acc,k,D,v,k1,D1=>acc≠[]→acc.length+n≤big4→v.2≠[]∧
   LL a137 0 [(0,some rf),(1,some (fnv (elF e))),(5,some (.slice true 5 (Tr.pvs (trPs ls acc))))] (PS4 s ls B k D) (.exit 0)
    [(1,some (fnv (elF e))),(5,some (.slice true 5 (Tr.pvs (trPs ls v.2))))] (PS4 s ls B k1 D1)
 |.bk,k,D,v,k1,D1=>E 142 [rf] (PS4 s ls B k D) (trP ls v.1).pv (PS4 s ls B k1 D1)
 |.sts acc,k,D,v,k1,D1=>acc.length+n≤big4→∀a b:Nat,
   LL a142 0 [(0,some rf),(2,some Z0),(3,some (N a)),(4,some (N b)),(5,some (accP 5 (Tr.pvs (trPs ls acc))))] (PS4 s ls B k D) (.exit 0)
    [(0,some rf),(2,some Z0),(3,some (N a)),(4,some (N b)),(5,some (accP 5 (Tr.pvs (trPs ls v.2))))] (PS4 s ls B k1 D1)
 |.st,k,D,v,k1,D1=>E 183 [rf] (PS4 s ls B k D) (trP ls v.1).pv (PS4 s ls B k1 D1)
 |.br,k,D,v,k1,D1=>[wIf].contains (wAt s ls k).2=true→E 238 [rf] (PS4 s ls B k D) (trP ls v.1).pv (PS4 s ls B k1 D1)
 |.sk f,k,D,_,k1,D1=>∀b:Nat,
   LL a183 0 [(0,some rf),(2,some Z0),(7,some (N f)),(8,some (N b))] (PS4 s ls B k D) (.exit 1) [(0,some rf),(2,some Z0),(7,some (N f)),(8,some (N b))] (PS4 s ls B k1 D1)
 |.sp,k,D,_,k1,D1=>∀f b q:Nat,f<k→BoxQ s ls B q→
   LL a64 0 [(0,some rf),(1,some (.func 65 [] [.ref q 0])),(4,some Z0),(5,some (N f)),(6,some (N b))] (PS4 s ls B k D) (.exit 0) [(0,some rf),(4,some Z0),(5,some (N f)),(6,some (N b))] (PS4 s ls B k1 D1)
 |.pg acc,k,D,v,k1,D1=>acc.length+n≤big4→∀T:Sto,BoxQ s ls B (T.length+1)→
   LL a17 0 [(1,some (.ref (T.length+1) 0)),(2,some Z0),(3,some (.agg [I 2,.str [],I 0,N s.length,accP 5 (Tr.pvs (trPs ls acc))]))] (PS4 s ls B k D) (.exit 0)
    [(1,some (.ref (T.length+1) 0)),(2,some Z0),(3,some (.agg [I 2,.str [],I 0,N s.length,accP 5 (Tr.pvs (trPs ls v.2))]))] (PS4 s ls B k1 D1)
section
variable{s:List UInt8}{ls:List Tk}{m n:Nat}{B:Sto}{k f:Nat}{D:List AD}{c:NT→Nat→List AD→Ans3}{r:Rs×Nat×List AD}{p q:Pg}
def OkE(s:List UInt8)(ls:List Tk)(m:Nat)(B:Sto)(n:Nat)(c:NT→Nat→List AD→Ans3):Prop:=
 OkI m c∧∀x k D v k1 D1,c x k D=some (v,k1,D1)→k≤m→Dok k D→EP4 s ls B n x k D v k1 D1
theorem qex(H:Toks s ls m)(hc:OkE s ls m B n c)(L:Nat)(hL:L=1∨L=2∨L=3∨L=5∨L=6∨L=7){g:AT→Pg}(h:G4 s ls m c r (Pg.cl (.ex L) g) k D):
  ∃x k1 D1,k≤k1∧E (exF L) [rf] (PS4 s ls B k D) (trP ls x).pv (PS4 s ls B k1 D1)∧G4 s ls m c r (g x) k1 D1:=by
 obtain⟨v,k1,D1,h1,h2,h3⟩:=h.cl hc.1;exact⟨v.1,k1,D1,h2,hc.2 _ _ _ _ _ _ h1 h.le h.ok hL,h3⟩
theorem qe1(H:Toks s ls m)(hc:OkE s ls m B n c){g:AT→Pg}(h:G4 s ls m c r (Pg.cl (.ex 1) g) k D):
  ∃x k1 D1,k≤k1∧E 239 [rf] (PS4 s ls B k D) (trP ls x).pv (PS4 s ls B k1 D1)∧G4 s ls m c r (g x) k1 D1:=qex H hc 1 (by simp) h
theorem qbk(H:Toks s ls m)(hc:OkE s ls m B n c){g:AT→Pg}(h:G4 s ls m c r (Pg.cl .bk g) k D):
  ∃x k1 D1,k≤k1∧E 142 [rf] (PS4 s ls B k D) (trP ls x).pv (PS4 s ls B k1 D1)∧G4 s ls m c r (g x) k1 D1:=by
 obtain⟨v,k1,D1,h1,h2,h3⟩:=h.cl hc.1;exact⟨v.1,k1,D1,h2,hc.2 _ _ _ _ _ _ h1 h.le h.ok,h3⟩
theorem qelem(H:Toks s ls m)(hc:OkE s ls m B n c)(e:El){g:AT→Pg}(h:G4 s ls m c r (elemP e g) k D):
  ∃x k1 D1,k≤k1∧E (elF e) [rf] (PS4 s ls B k D) (trP ls x).pv (PS4 s ls B k1 D1)∧G4 s ls m c r (g x) k1 D1:=by
 cases e with
 |fd=>exact qfield H h
 |pa=>exact qparam H h
 |ex=>exact qe1 H hc h
theorem pur_el(e:El):pur (elF e)=false:=by cases e<;>rfl
theorem qlist(H:Toks s ls m)(hc:OkE s ls m B n c)(hn:n+1≤big4)(e:El){g:List AT→Pg}(h:G4 s ls m c r (listP e g) k D):
  ∃l k1 D1,k≤k1∧l≠[]∧E 137 [rf,fnv (elF e)] (PS4 s ls B k D) (.slice false 5 (Tr.pvs (trPs ls l))) (PS4 s ls B k1 D1)∧G4 s ls m c r (g l) k1 D1:=by
 obtain⟨x,k1,D1,l1,a1,h⟩:=qelem H hc e h;obtain⟨v,k2,D2,h1,h2,h3⟩:=h.call hc.1;obtain⟨b1,b2⟩:=hc.2 _ _ _ _ _ _ h1 h.le h.ok (by simp) (by simp;omega)
 exact⟨v.2,k2,D2,by omega,b1,r105 (pur_el e) a1 b2,h3⟩
theorem qargs(H:Toks s ls m)(hc:OkE s ls m B n c)(hn:n+1≤big4){g:List AT→Pg}(hw:(wAt s ls k).2=[40])(h:G4 s ls m c r (argsP g) k D):
  ∃l k1 D1,k≤k1∧((l=[]∧E 268 [rf] (PS4 s ls B k D) .nils (PS4 s ls B k1 D1))∨(l≠[]∧E 268 [rf] (PS4 s ls B k D) (.slice false 5 (Tr.pvs (trPs ls l))) (PS4 s ls B k1 D1)))∧G4 s ls m c r (g l) k1 D1:=by
 have hk:=h.le;obtain⟨a1,h⟩:=qread (B:=B) H h;have a2:E 135 [rf,.str [40]] (PS4 s ls B k D) (.tuple []) (PS4 s ls B (k+1) D):=r103_1 (r123_1 (isB H hk [[40]] (by rw[hw];rfl)) a1)
 have hk1:=h.le;rcases h.ifW with⟨hb,h⟩ | ⟨hb,h⟩
 ·obtain⟨k2,D2,l2,a3,h⟩:=qxp (B:=B) H [41] h;exact⟨[],k2,D2,by omega,.inl ⟨rfl,r127_1 a2 (isB H hk1 [[41]] hb) a3⟩,h⟩
 ·obtain⟨l,k2,D2,l2,hl,a3,h⟩:=qlist H hc hn .ex h;obtain⟨k3,D3,l3,a4,h⟩:=qxp (B:=B) H [41] h;exact⟨l,k3,D3,by omega,.inr ⟨hl,r127_2 a2 (isB H hk1 [[41]] hb) a3 a4⟩,h⟩
theorem qplace(H:Toks s ls m)(hc:OkE s ls m B n c){g:AT→Pg}(h:G4 s ls m c r (AX3 g) k D):
  ∃x k1 D1,k≤k1∧E 269 [rf] (PS4 s ls B k D) (trP ls x).pv (PS4 s ls B k1 D1)∧G4 s ls m c r (g x) k1 D1:=by
 obtain⟨v,k1,D1,l1,a1,h⟩:=qvar (B:=B) H h.mrk;rcases qac (B:=B) H [91] h with⟨a2,h⟩ | ⟨a2,h⟩
 ·obtain⟨y,k2,D2,l2,a3,h⟩:=qe1 H hc h;obtain⟨k3,D3,l3,a4,h⟩:=qxp (B:=B) H [93] h;exact⟨_,_,_,by omega,r128_1 p75 a1 a2 a3 a4 (nd1 H (by omega) h.le 21 [] false [_,_] (by simp)),h.bd⟩
 ·rcases qac (B:=B) H [46] h with⟨a3,h⟩ | ⟨a3,h⟩
  ·obtain⟨x,k2,D2,l2,a4,h⟩:=qnm (B:=B) H h;exact⟨_,_,_,by omega,r128_2 p75 a1 a2 a3 a4 (nd1 H (by omega) h.le 22 x false [_] (by simp)),h.bd⟩
  ·exact⟨_,_,_,by omega,r128_3 p75 a1 a2 a3,h⟩
theorem exT(H:Toks s ls m)(hk:k<m)(x:List UInt8)(hb:[x].contains (wAt s ls k).2=true)(hx:spW.contains x=true:=by decide):E 135 [rf,.str x] (PS4 s ls B k D) (.tuple []) (PS4 s ls B (k+1) D):=
 r103_1 (r123_1 (isB H (Nat.le_of_lt hk) [x] hb (by simp[hx];simpa using hx)) (p76 H hk))
theorem qrecord(H:Toks s ls m)(hc:OkE s ls m B n c)(hn:n+1≤big4){g:AT→Pg}(hb:[wRec].contains (wAt s ls k).2=true)(h:G4 s ls m c r (AZ6 g) k D):
  ∃x k1 D1,k≤k1∧E 61 [rf] (PS4 s ls B k D) (trP ls x).pv (PS4 s ls B k1 D1)∧G4 s ls m c r (g x) k1 D1:=by
 have h:=(h.mrk.read (w5 H)).2;have a1:=exT (B:=B) (D:=D) (k:=k) H (by have:=h.le;omega) wRec hb
 obtain⟨x,k1,D1,l1,a2,h⟩:=qnm (B:=B) H h;obtain⟨k2,D2,l2,a3,h⟩:=qxp (B:=B) H [123] h;obtain⟨l,k3,D3,l3,hl,a4,h⟩:=qlist H hc hn .fd h;obtain⟨k4,D4,l4,a5,h⟩:=qxp (B:=B) H [125] h;exact⟨_,_,_,by omega,r51 p75 a1 a2 a3 a4 a5 (nd1 H (by omega) h.le 3 x false l hl),h.bd⟩
theorem qparams(H:Toks s ls m)(hc:OkE s ls m B n c)(hn:n+1≤big4){g:AT→Pg}(h:G4 s ls m c r (AZ9 g) k D):
  ∃x k1 D1,k≤k1∧E 140 [rf] (PS4 s ls B k D) (trP ls x).pv (PS4 s ls B k1 D1)∧G4 s ls m c r (g x) k1 D1:=by
 obtain⟨k1,D1,l1,a1,h⟩:=qxp (B:=B) H [40] h.mrk;have hk1:=h.le;rcases h.ifW with⟨hb,h⟩ | ⟨hb,h⟩
 ·obtain⟨k2,D2,l2,a2,h⟩:=qxp (B:=B) H [41] h;exact⟨_,_,_,by omega,r107_1 p75 a1 (isB H hk1 [[41]] hb) a2 (nd0 H (by omega) h.le 6 [] true),h.bd⟩
 ·obtain⟨l,k2,D2,l2,hl,a2,h⟩:=qlist H hc hn .pa h;obtain⟨k3,D3,l3,a3,h⟩:=qxp (B:=B) H [41] h;exact⟨_,_,_,by omega,r107_2 p75 a1 (isB H hk1 [[41]] hb) a2 a3 (nd1 H (by omega) h.le 6 [] true l hl),h.bd⟩
theorem qproc(H:Toks s ls m)(hc:OkE s ls m B n c)(hn:n+1≤big4){g:AT→Pg}(hb:[wProc].contains (wAt s ls k).2=true)(h:G4 s ls m c r (procP g) k D):
  ∃x k1 D1,k≤k1∧E 62 [rf] (PS4 s ls B k D) (trP ls x).pv (PS4 s ls B k1 D1)∧G4 s ls m c r (g x) k1 D1:=by
 have h:=(h.mrk.read (w5 H)).2;have a1:=exT (B:=B) (D:=D) (k:=k) H (by have:=h.le;omega) wProc hb
 obtain⟨x,k1,D1,l1,a2,h⟩:=qnm (B:=B) H h;obtain⟨a,k2,D2,l2,a3,h⟩:=qparams H hc hn h;obtain⟨t,k3,D3,l3,a4,h⟩:=qwr (B:=B) H h;obtain⟨b,k4,D4,l4,a5,h⟩:=qbk H hc h;exact⟨_,_,_,by omega,r52 p75 a1 a2 a3 a4 a5 (nd1 H (by omega) h.le 5 x false [_,_,_] (by simp)),h.bd⟩
theorem AJS(H:Toks s ls m)(hf:f≤k){kd:Nat}{tx:List UInt8}(h:G4 s ls m c r (Pg.nod kd tx f []) k D):∃x,r=((x,[]),k,D)∧E 139 [rf,N kd,.str tx,N f,N (en ls f),.nils] (PS4 s ls B k D) (trP ls x).pv (PS4 s ls B k D):=
 ⟨_,h.bd.ret,nd0 H hf h.le kd tx true⟩
theorem Az8(H:Toks s ls m)(hf:f≤k){kd:Nat}{tx:List UInt8}{us:List AT}(hu:us≠[])(h:G4 s ls m c r (Pg.nod kd tx f us) k D):
  ∃x,r=((x,[]),k,D)∧E 139 [rf,N kd,.str tx,N f,N (en ls f),.slice false 5 (Tr.pvs (trPs ls us))] (PS4 s ls B k D) (trP ls x).pv (PS4 s ls B k D):=
 ⟨_,h.bd.ret,nd1 H hf h.le kd tx true us hu⟩
theorem qlv4(H:Toks s ls m)(hc:OkE s ls m B n c)(hb:E 178 [rf,.str wNot] (PS4 s ls B k D) (.bool false) (PS4 s ls B k D))(h:G4 s ls m c r lv4P k D):E 275 [rf] (PS4 s ls B k D) (trP ls r.1.1).pv (PS4 s ls B r.2.1 r.2.2):=by
 obtain⟨x,k1,D1,l1,a1,h⟩:=qex H hc 5 (by simp) h.mrk
 have hk1:=h.le;rcases h.ifW with⟨hw,h⟩ | ⟨hw,h⟩
 ·obtain⟨a2,h⟩:=qrd (B:=B) H h;obtain⟨y,k2,D2,l2,a3,h⟩:=qex H hc 5 (by simp) h
  obtain⟨x9,e9,n9⟩:=Az8 H (by omega) (by simp) h
  rw[e9];exact r119_2 p75 hb a1 (isB H hk1 (opL 4) hw) a2 a3 n9
 ·have e:=h.ret;rw[e];exact r119_3 p75 hb a1 (isB H hk1 (opL 4) hw)
theorem w126(H:Toks s ls m)(hk:k<m){b:Bool}(hw:((wAt s ls (k+1)).2==[40])=b):E 267 [rf,.str [40]] (PS4 s ls B k D) (.bool b) (PS4 s ls B k D):=by
 obtain⟨t,ht⟩:=H.at (k:=k+1) (by omega)
 have h47:=p47 (B:=B) (D:=D) H (Nat.le_of_lt hk) (j:=1) (by omega) (t:=t) (by rw[show min (k+1) m=k+1 by omega];exact ht)
 have h102:=p102 (k:=k) (B:=B) (D:=D) H ht;rw[AXU ht] at hw;by_cases h3:t.k=3
 ·have:=r126_1 (w:=[40]) h47 (by omega) h102
  rwa [show(wd s t==[40])=b from hw] at this
 ·have hne:wd s t≠[40]:=fun e=>h3 (H.par _ t ht e)
  have:b=false:=by rw[←hw];simpa using hne
  rw[this];exact r126_2 h47 (by omega)
theorem qprim(H:Toks s ls m)(hc:OkE s ls m B n c)(hn:n+1≤big4)(h:G4 s ls m c r primP k D):E 286 [rf] (PS4 s ls B k D) (trP ls r.1.1).pv (PS4 s ls B r.2.1 r.2.2):=by
 have hk:=h.le;rcases h.mrk.ifK with⟨k2,h⟩ | ⟨k2,h⟩
 ·obtain⟨a1,h⟩:=qrd (B:=B) H h;obtain⟨x9,e9,n9⟩:=AJS H (by omega) h
  rw[e9];exact r162_1 p75 (kdT H hk 2 k2) (r140_1 (kdT H hk 2 k2) a1 (dgt_eq _ (wd_len H k))) n9
 have a2:=kdF (B:=B) (D:=D) H hk 2 k2;rcases h.ifW with⟨hb,h⟩ | ⟨hb,h⟩
 ·obtain⟨a1,h⟩:=qrd (B:=B) H h;obtain⟨x9,e9,n9⟩:=AJS H (by omega) h
  rw[e9];exact r162_2 p75 a2 (isB H hk [wTrue,AJJ] hb) a1 n9
 have a3:=isB (B:=B) (D:=D) H hk [wTrue,AJJ] hb;have h:=h.look;by_cases hk0:(wAt s ls k).1=0
 ·have hlt:=H.lt hk (by omega)
  have a4:=kdT (B:=B) (D:=D) H hk 0 hk0;by_cases hp:(wAt s ls (k+1)).2=[40]
  ·rw[if_pos ⟨hk0,hp⟩] at h;have a5:=w126 (B:=B) (D:=D) H hlt (b:=true) (by rw[hp];rfl)
   obtain⟨a6,h⟩:=qrd (B:=B) H h;obtain⟨l,k3,D3,l3,a7,h⟩:=qargs H hc hn hp h;rcases a7 with⟨rfl,a7⟩ | ⟨hl,a7⟩
   ·obtain⟨x9,e9,n9⟩:=AJS H (by omega) h
    rw[e9];exact r162_5 p75 a2 a3 a4 a5 a6 a7 n9
   ·obtain⟨x9,e9,n9⟩:=Az8 H (by omega) hl h
    rw[e9];exact r162_6 p75 a2 a3 a4 a5 a6 a7 n9
  ·rw[if_neg (fun x=>hp x.2),if_pos hk0] at h
   have a5:=w126 (B:=B) (D:=D) H hlt (b:=false) (by simpa using hp)
   obtain⟨x,k3,D3,l3,a6,h⟩:=qplace H hc h;have e:=h.ret;rw[e];exact r162_3 p75 a2 a3 a4 a5 a6
 ·rw[if_neg (fun x=>hk0 x.1),if_neg hk0] at h
  have a4:=kdF (B:=B) (D:=D) H hk 0 hk0;rcases qac (B:=B) H [91] h with⟨a5,h⟩ | ⟨a5,h⟩
  ·obtain⟨l,k3,D3,l3,hl,a6,h⟩:=qlist H hc hn .ex h;obtain⟨k4,D4,l4,a7,h⟩:=qxp (B:=B) H [93] h;obtain⟨x9,e9,n9⟩:=Az8 H (by omega) hl h
   rw[e9];exact r162_4 p75 a2 a3 a4 a5 a6 a7 n9
  ·rcases qac (B:=B) H wLen h with⟨a6,h⟩ | ⟨a6,h⟩
   ·obtain⟨k3,D3,l3,a7,h⟩:=qxp (B:=B) H [40] h;obtain⟨v,k4,D4,l4,a8,h⟩:=qvar (B:=B) H h;obtain⟨k5,D5,l5,a9,h⟩:=qxp (B:=B) H [41] h;obtain⟨x9,e9,n9⟩:=Az8 H (by omega) (by simp) h
    rw[e9];exact r162_7 p75 a2 a3 a4 a5 a6 a7 a8 a9 n9
   ·rcases qac (B:=B) H [40] h with⟨a7,h⟩ | ⟨a7,h⟩
    ·obtain⟨x,k3,D3,l3,a8,h⟩:=qe1 H hc h;obtain⟨k4,D4,l4,a9,h⟩:=qxp (B:=B) H [41] h;have e:=h.ret;rw[e];exact r162_8 p75 a2 a3 a4 a5 a6 a7 a8 a9
    ·obtain⟨a8,h⟩:=q53 (B:=B) H h;obtain⟨x,a9,h⟩:=qmiss (B:=B) H h;have e:=h.ret;rw[e];exact r162_9 p75 a2 a3 a4 a5 a6 a7 a8 a9
end
end Go.Abs.Z

namespace Go.Abs.Z
open Go.Proofs Go.RowKit
section
variable{s:List UInt8}{ls:List Tk}{m n:Nat}{B:Sto}{k f:Nat}{D:List AD}{c:NT→Nat→List AD→Ans3}{r:Rs×Nat×List AD}{p q:Pg}
theorem two_w{x y z:List UInt8}(h1:[x].contains z=false)(h2:[y].contains z=false):[x,y].contains z=false:=by
 simp only[List.contains_cons,List.contains_nil,Bool.or_false] at h1 h2 ⊢;simp[h1,h2]
theorem two_l{x y z:List UInt8}(h1:[x].contains z=true):[x,y].contains z=true:=by
 simp only[List.contains_cons,List.contains_nil,Bool.or_false] at h1 ⊢;simp[h1]
theorem two_r{x y z:List UInt8}(h1:[y].contains z=true):[x,y].contains z=true:=by
 simp only[List.contains_cons,List.contains_nil,Bool.or_false] at h1 ⊢;simp[h1]
theorem qsv(H:Toks s ls m)(hc:OkE s ls m B n c)(hb:[wVar].contains (wAt s ls k).2=true)(h:G4 s ls m c r svP k D):E 237 [rf] (PS4 s ls B k D) (trP ls r.1.1).pv (PS4 s ls B r.2.1 r.2.2):=by
 have h:=(h.mrk.read (w5 H)).2;have a1:=exT (B:=B) (D:=D) (k:=k) H (by have:=h.le;omega) wVar hb
 obtain⟨x,k1,D1,l1,a2,h⟩:=qnm (B:=B) H h;obtain⟨t,k2,D2,l2,a3,h⟩:=qwr (B:=B) H h;obtain⟨k3,D3,l3,a4,h⟩:=qxp (B:=B) H [61] h;obtain⟨v,k4,D4,l4,a5,h⟩:=qe1 H hc h;obtain⟨k5,D5,l5,a6,h⟩:=qxp (B:=B) H [59] h;obtain⟨y,e,a7⟩:=Az8 (B:=B) H (f:=k) (by omega) (by simp) h
 rw[e];exact r73 p75 a1 a2 a3 a4 a5 a6 a7
theorem qfor(H:Toks s ls m)(hc:OkE s ls m B n c)(hb:[wFor].contains (wAt s ls k).2=true)(h:G4 s ls m c r forP k D):E 240 [rf] (PS4 s ls B k D) (trP ls r.1.1).pv (PS4 s ls B r.2.1 r.2.2):=by
 have h:=(h.mrk.read (w5 H)).2;have a1:=exT (B:=B) (D:=D) (k:=k) H (by have:=h.le;omega) wFor hb
 obtain⟨x,k1,D1,l1,a2,h⟩:=qnm (B:=B) H h;obtain⟨k2,D2,l2,a3,h⟩:=qxp (B:=B) H [61] h;obtain⟨u,k3,D3,l3,a4,h⟩:=qe1 H hc h;obtain⟨k4,D4,l4,a5,h⟩:=qxp (B:=B) H wTo h;obtain⟨v,k5,D5,l5,a6,h⟩:=qe1 H hc h;obtain⟨b,k6,D6,l6,a7,h⟩:=qbk H hc h;obtain⟨y,e,a8⟩:=Az8 (B:=B) H (f:=k) (by omega) (by simp) h
 rw[e];exact r79 p75 a1 a2 a3 a4 a5 a6 a7 a8
theorem q125(H:Toks s ls m)(hk:k≤m){b:Bool}(hb:begE (wAt s ls k)=b):E 266 [rf] (PS4 s ls B k D) (.bool b) (PS4 s ls B k D):=by
 subst hb;unfold begE;by_cases h0:(wAt s ls k).1=0
 ·have e:((wAt s ls k).1==0||(wAt s ls k).1==2||begW.contains (wAt s ls k).2)=true:=by simp[h0]
  rw[e];exact r125_1 (kdT H hk 0 h0)
 ·by_cases h2:(wAt s ls k).1=2
  ·have e:((wAt s ls k).1==0||(wAt s ls k).1==2||begW.contains (wAt s ls k).2)=true:=by simp[h2]
   rw[e];exact r125_2 (kdF H hk 0 h0) (kdT H hk 2 h2)
  ·have e:((wAt s ls k).1==0||(wAt s ls k).1==2||begW.contains (wAt s ls k).2)=begW.contains (wAt s ls k).2:=by simp[h0,h2]
   rw[e];exact r125_3 (kdF H hk 0 h0) (kdF H hk 2 h2) (isB H hk begW rfl)
theorem qreturn(H:Toks s ls m)(hc:OkE s ls m B n c)(hb:[AzU].contains (wAt s ls k).2=true)(h:G4 s ls m c r returnP k D):E 241 [rf] (PS4 s ls B k D) (trP ls r.1.1).pv (PS4 s ls B r.2.1 r.2.2):=by
 have a0:=isB (B:=B) (D:=D) H h.le [AzU] hb;obtain⟨a1,h⟩:=qread (B:=B) H h.mrk;have hk1:=h.le;have h:=h.look;cases hbg:begE (wAt s ls (k+1)) with
 |true=>
  rw[hbg,if_pos rfl] at h;obtain⟨x,k2,D2,l2,a2,h⟩:=qe1 H hc h;obtain⟨k3,D3,l3,a3,h⟩:=qxp (B:=B) H [59] h;obtain⟨y,e,a4⟩:=Az8 (B:=B) H (f:=k) (by omega) (by simp) h
  rw[e];exact r80_2 p75 a0 a1 (q125 H hk1 hbg) a2 a3 a4
 |false=>
  rw[hbg,if_neg (by simp)] at h
  obtain⟨x,a2,h⟩:=qnone (B:=B) H h;obtain⟨k3,D3,l3,a3,h⟩:=qxp (B:=B) H [59] h;obtain⟨y,e,a4⟩:=Az8 (B:=B) H (f:=k) (by omega) (by simp) h
  rw[e];exact r80_3 p75 a0 a1 (q125 H hk1 hbg) a2 a3 a4
theorem qassert(H:Toks s ls m)(hc:OkE s ls m B n c)(hb:[AzU].contains (wAt s ls k).2=false)(h:G4 s ls m c r assertP k D):E 241 [rf] (PS4 s ls B k D) (trP ls r.1.1).pv (PS4 s ls B r.2.1 r.2.2):=by
 have a0:=isB (B:=B) (D:=D) H h.le [AzU] hb;obtain⟨a1,h⟩:=qread (B:=B) H h.mrk;obtain⟨x,k2,D2,l2,a2,h⟩:=qe1 H hc h;obtain⟨k3,D3,l3,a3,h⟩:=qxp (B:=B) H [59] h;obtain⟨y,e,a4⟩:=Az8 (B:=B) H (f:=k) (by omega) (by simp) h
 rw[e];exact r80_1 p75 a0 a1 a2 a3 a4
theorem qsimple(H:Toks s ls m)(hc:OkE s ls m B n c)(hn:n+1≤big4)(h0:(wAt s ls k).1=0)(h:G4 s ls m c r simpleP k D):E 242 [rf] (PS4 s ls B k D) (trP ls r.1.1).pv (PS4 s ls B r.2.1 r.2.2):=by
 have hlt:=H.lt h.le (by omega)
 have h:=h.mrk.look;by_cases hp:(wAt s ls (k+1)).2=[40]
 ·rw[if_pos hp] at h;have a1:=w126 (B:=B) (D:=D) H hlt (b:=true) (by rw[hp];rfl)
  obtain⟨a2,h⟩:=qrd (B:=B) H h;obtain⟨l,k3,D3,l3,a3,h⟩:=qargs H hc hn hp h;obtain⟨k4,D4,l4,a4,h⟩:=qxp (B:=B) H [59] h;rcases a3 with⟨rfl,a3⟩ | ⟨hl,a3⟩
  ·obtain⟨y,e,a5⟩:=AJS (B:=B) H (f:=k) (by omega) h
   rw[e];exact r81_2 p75 a1 a2 a3 a4 a5
  ·obtain⟨y,e,a5⟩:=Az8 (B:=B) H (f:=k) (by omega) hl h
   rw[e];exact r81_3 p75 a1 a2 a3 a4 a5
 ·rw[if_neg hp] at h;have a1:=w126 (B:=B) (D:=D) H hlt (b:=false) (by simpa using hp)
  obtain⟨x,k2,D2,l2,a2,h⟩:=qplace H hc h;obtain⟨k3,D3,l3,a3,h⟩:=qxp (B:=B) H [61] h;obtain⟨v,k4,D4,l4,a4,h⟩:=qe1 H hc h;obtain⟨k5,D5,l5,a5,h⟩:=qxp (B:=B) H [59] h;obtain⟨y,e,a6⟩:=Az8 (B:=B) H (f:=k) (by omega) (by simp) h
  rw[e];exact r81_1 p75 a1 a2 a3 a4 a5 a6
theorem qst(H:Toks s ls m)(hc:OkE s ls m B n c)(hn:n+1≤big4)(h:G4 s ls m c r (prog .st) k D):E 183 [rf] (PS4 s ls B k D) (trP ls r.1.1).pv (PS4 s ls B r.2.1 r.2.2):=by
 have hk:=h.le;rcases h.ifW with⟨b1,h⟩ | ⟨b1,h⟩
 ·exact r38_1 (isB H hk [wVar] b1) (qsv H hc b1 h)
 have a1:=isB (B:=B) (D:=D) H hk [wVar] b1;rcases h.ifW with⟨b2,h⟩ | ⟨b2,h⟩
 ·exact r38_2 a1 (isB H hk [wIf] b2) (hc.2 _ _ _ _ _ _ h.lst h.le h.ok b2)
 have a2:=isB (B:=B) (D:=D) H hk [wIf] b2;rcases h.ifW with⟨b3,h⟩ | ⟨b3,h⟩
 ·obtain⟨x1,h⟩:=qread (B:=B) H h.mrk;obtain⟨u,k1,D1,l1,x2,h⟩:=qe1 H hc h;obtain⟨b,k2,D2,l2,x3,h⟩:=qbk H hc h;obtain⟨y,e,x4⟩:=Az8 (B:=B) H (f:=k) (by omega) (by simp) h
  rw[e];exact r38_3 a1 a2 (isB H hk [AXT] b3) p75 x1 x2 x3 x4
 have a3:=isB (B:=B) (D:=D) H hk [AXT] b3;rcases h.ifW with⟨b4,h⟩ | ⟨b4,h⟩
 ·exact r38_4 a1 a2 a3 (isB H hk [wFor] b4) (qfor H hc b4 h)
 have a4:=isB (B:=B) (D:=D) H hk [wFor] b4;rcases h.ifW with⟨b5,h⟩ | ⟨b5,h⟩
 ·exact r38_5 a1 a2 a3 a4 (isB H hk [AzU,AkM] (two_l b5)) (qreturn H hc b5 h)
 rcases h.ifW with⟨b6,h⟩ | ⟨b6,h⟩
 ·exact r38_5 a1 a2 a3 a4 (isB H hk [AzU,AkM] (two_r b6)) (qassert H hc b5 h)
 have a5:=isB (B:=B) (D:=D) H hk [AzU,AkM] (two_w b5 b6);rcases h.ifK with⟨b7,h⟩ | ⟨b7,h⟩
 ·exact r38_6 a1 a2 a3 a4 a5 (kdT H hk 0 b7) (qsimple H hc hn b7 h)
 obtain⟨a6,h⟩:=q53 (B:=B) H h;obtain⟨v,k1,D1,h1,l1,h2⟩:=h.mrk.call hc.1;obtain⟨y,e,x4⟩:=AJS (B:=B) H (f:=k) (by omega) h2
 rw[e];exact r38_7 a1 a2 a3 a4 a5 (kdF H hk 0 b7) a6 p75 (hc.2 _ _ _ _ _ _ h1 h.le h.ok (en ls k)) x4
theorem okP4(H:Toks s ls m):∀n,n≤big4→OkE s ls m B n (runN (wAt s ls) n)
 |0,_=>⟨AzK (w5 H) 0,fun x k D v k1 D1 h=>by cases h⟩
 |n+1,hn=>by
  have hc:=okP4 H n (by omega)
  refine⟨AzK (w5 H) (n+1),fun x k D v k1 D1 hrun hk hD=>?_⟩
  have h:G4 s ls m (runN (wAt s ls) n) (v,k1,D1) (prog x) k D:=⟨hrun,hk,hD⟩;clear hrun;cases x with
  |ex L=>
   intro hL
   have low:∀(L:Nat),(L=1∨L=2∨L=5∨L=6)→G4 s ls m (runN (wAt s ls) n) (v,k1,D1) (Pg.mrk fun f=>Pg.cl (.ex (L+1)) fun x=>Pg.lst (.lp L f x)) k D→
     ∃U1:Tr,∃k2 D2,E (exF (L+1)) [rf] (PS4 s ls B k D) U1.pv (PS4 s ls B k2 D2)∧
      LL a264 0 [(0,some rf),(1,some (fnv (exF (L+1)))),(2,some (sl1 (opL L))),(6,some Z0),(7,some (N k)),(8,some (N (en ls k))),(9,some U1.pv)] (PS4 s ls B k2 D2) (.exit 0)
       [(0,some rf),(1,some (fnv (exF (L+1)))),(6,some Z0),(9,some (trP ls v.1).pv)] (PS4 s ls B k1 D1):=by
    intro L hL h;obtain⟨x,k2,D2,l2,a1,h⟩:=qex H hc (L+1) (by omega) h.mrk
    exact⟨_,_,_,a1,hc.2 _ _ _ _ _ _ h.lst h.le h.ok hL l2⟩
   rcases hL with rfl | rfl | rfl | rfl | rfl | rfl
   ·obtain⟨U,k2,D2,a1,a2⟩:=low 1 (by simp) h
    exact r35 (r69 p75 rfl a1 a2)
   ·obtain⟨U,k2,D2,a1,a2⟩:=low 2 (by simp) h
    exact r70 (r69 p75 rfl a1 a2)
   ·rcases qac (B:=B) H wNot h.mrk with⟨a1,h⟩ | ⟨a1,h⟩
    ·obtain⟨x,k2,D2,l2,a2,h⟩:=qex H hc 3 (by simp) h
     obtain⟨y,e,a3⟩:=Az8 (B:=B) H (f:=k) (by omega) (by simp) h
     cases e;exact r119_1 p75 a1 a2 a3
    ·exact qlv4 H hc a1 h
   ·obtain⟨U,k2,D2,a1,a2⟩:=low 5 (by simp) h
    exact r141 (r69 p75 rfl a1 a2)
   ·obtain⟨U,k2,D2,a1,a2⟩:=low 6 (by simp) h
    exact r152 (r69 p75 rfl a1 a2)
   ·rcases qac (B:=B) H [45] h.mrk with⟨a1,h⟩ | ⟨a1,h⟩
    ·obtain⟨x,k2,D2,l2,a2,h⟩:=qex H hc 7 (by simp) h
     obtain⟨y,e,a3⟩:=Az8 (B:=B) H (f:=k) (by omega) (by simp) h
     cases e;exact r156_1 p75 a1 a2 a3
    ·exact r156_2 p75 a1 (qprim H hc hn h)
  |lp L f x=>
   intro hL hf;have hpg:pur (exF (L+1))=false:=by rcases hL with rfl | rfl | rfl | rfl<;>rfl
   have hwd:((opL L).all spW.contains&&decide ((opL L).length<1000))=true:=by rcases hL with rfl | rfl | rfl | rfl<;>decide
   rcases G3.ifW (show G4 s ls m (runN (wAt s ls) n) (v,k1,D1) (Pg.ifW (opL L) (Pg.rd fun o=>Pg.cl (.ex (L+1)) fun y=>Pg.bd 29 o f false [x,y] fun z=>Pg.lst (.lp L f z)) (.ret (x,[]))) k D from h) with⟨hb,h⟩ | ⟨hb,h⟩
   ·have a1:=isB (B:=B) (D:=D) H hk (opL L) hb hwd;obtain⟨a2,h⟩:=qrd (B:=B) H h;obtain⟨y,k2,D2,l2,a3,h⟩:=qex H hc (L+1) (by omega) h
    have h:=h.bd;exact r69_l0_next1 a1 a2 hpg a3 (nd1 H (by omega) h.le 29 _ false [x,y] (by simp)) (hc.2 _ _ _ _ _ _ h.lst h.le h.ok hL (by omega))
   ·have e:=h.ret;cases e;exact r69_l0_out1 (isB (B:=B) (D:=D) H hk (opL L) hb hwd)
  |tl e acc=>
   intro hne hl;rcases qac (B:=B) H [44] h with⟨a1,h⟩ | ⟨a1,h⟩
   ·obtain⟨x,k2,D2,l2,a2,h⟩:=qelem H hc e h;obtain⟨b1,b2⟩:=hc.2 _ _ _ _ _ _ h.lst h.le h.ok (by simp) (by simp;omega)
    rw[AkO] at b2;exact⟨b1,r105_l0_next1 a1 (pur_el e) a2 (by rw[trPs_len];unfold big4 at hl;unfold AqC;omega) b2⟩
   ·have e:=h.ret;cases e;exact⟨hne,r105_l0_out1 a1⟩
  |bk=>
   rcases qac (B:=B) H [123] h.mrk with⟨a1,h⟩ | ⟨a1,h⟩
   ·obtain⟨u,k2,D2,h1,l2,h⟩:=h.call hc.1;have a2:=hc.2 _ _ _ _ _ _ h1 (by have:=h.le;omega) (hD.le (by omega)) (by simp;omega) k (en ls k)
    obtain⟨k3,D3,l3,a3,h⟩:=qxp (B:=B) H [125] h;by_cases hu:u.2=[]
    ·rw[hu] at a2 h;obtain⟨y,e,a4⟩:=AJS (B:=B) H (f:=k) (by omega) h
     cases e;exact r77_1 p75 a1 a2 a3 a4
    ·obtain⟨y,e,a4⟩:=Az8 (B:=B) H (f:=k) (by omega) hu h
     cases e;refine r77_1 p75 a1 a2 a3 ?_
     have:accD 5 (Tr.pvs (trPs ls u.2))=.slice false 5 (Tr.pvs (trPs ls u.2)):=by
      cases hu2:u.2 with
      |nil=>exact absurd hu2 hu
      |cons a l=>rfl
     rw[this];exact a4
   ·obtain⟨a2,h⟩:=q53 (B:=B) H h;have hle:=h.le;have e:=h.bd.ret;cases e;exact r77_2 p75 a1 a2 (nd0 H (Nat.le_refl _) hle 11 [] false)
  |sts acc=>
   intro hl a b;rcases h.ifW with⟨hb,h⟩ | ⟨hb,h⟩
   ·have e:=h.ret;cases e;exact r77_l0_out1 (isB H hk stopW hb)
   ·rcases h.ifK with⟨h5,h⟩ | ⟨h5,h⟩
    ·have e:=h.ret;cases e;exact r77_l0_out2 (isB H hk stopW hb) (kdT H hk 5 h5)
    ·obtain⟨u,k2,D2,h1,l2,h⟩:=h.cl hc.1;have a1:=hc.2 _ _ _ _ _ _ h1 hk hD;have a2:=hc.2 _ _ _ _ _ _ h.lst h.le h.ok (by simp;omega) a b
     rw[AkO,AwF] at a2;exact r77_l0_next1 (isB H hk stopW hb) (kdF H hk 5 h5) a1 (by rw[Tr.AjL,List.length_map,trPs_len];unfold big4 at hl;unfold AqC;omega) a2
  |st=>exact qst H hc hn h
  |br=>
   intro hb;have h:=(h.mrk.read (w5 H)).2;have a1:=exT (B:=B) (D:=D) (k:=k) H (by have:=h.le;omega) wIf hb
   obtain⟨u,k2,D2,l2,a2,h⟩:=qe1 H hc h;obtain⟨b,k3,D3,l3,a3,h⟩:=qbk H hc h;rcases qac (B:=B) H wElse h with⟨a4,h⟩ | ⟨a4,h⟩
   ·have hk4:=h.le;have ok4:=h.ok;rcases h.ifW with⟨b5,h⟩ | ⟨b5,h⟩
    ·obtain⟨o,k5,D5,h1,l5,h⟩:=h.cl hc.1;have a5:=hc.2 _ _ _ _ _ _ h1 hk4 ok4 b5;obtain⟨y,e,a6⟩:=Az8 (B:=B) H (f:=k) (by omega) (by simp) h
     cases e;exact r74_2 p75 a1 a2 a3 a4 (isB H hk4 [wIf] b5) a5 a6
    ·obtain⟨o,k5,D5,l5,a5,h⟩:=qbk H hc h;obtain⟨y,e,a6⟩:=Az8 (B:=B) H (f:=k) (by omega) (by simp) h
     cases e;exact r74_3 p75 a1 a2 a3 a4 (isB H hk4 [wIf] b5) a5 a6
   ·obtain⟨o,a5,h⟩:=qnone (B:=B) H h;obtain⟨y,e,a6⟩:=Az8 (B:=B) H (f:=k) (by omega) (by simp) h
    cases e;exact r74_1 p75 a1 a2 a3 a4 a5 a6
  |sk f=>
   intro b;rcases h.ifK with⟨h5,h⟩ | ⟨h5,h⟩
   ·have e:=h.ret;cases e;exact r38_l0_out1 (kdT H hk 5 h5)
   ·have a1:=kdF (B:=B) (D:=D) H hk 5 h5;have h:=h.mrk;by_cases hf:k=f
    ·rw[if_pos hf] at h;rcases h.ifW with⟨hb,h⟩ | ⟨hb,h⟩
     ·have e:=h.ret;cases e;exact r38_l0_out2 a1 (by omega) (isB H hk stopW hb)
     ·obtain⟨a2,h⟩:=qrd (B:=B) H h;by_cases hs:(wAt s ls k).2=[59]
      ·rw[if_pos hs] at h;have e:=h.ret;cases e;exact r38_l0_out4 a1 (by omega) (isB H hk stopW hb) a2 hs
      ·rw[if_neg hs] at h;exact r38_l0_next1 a1 (by omega) (isB H hk stopW hb) a2 hs (hc.2 _ _ _ _ _ _ h.lst h.le h.ok b)
    ·rw[if_neg hf] at h;rcases h.ifW with⟨hb,h⟩ | ⟨hb,h⟩
     ·have e:=h.ret;cases e;exact r38_l0_out3 a1 (by omega) (r82 (isB H hk stopsW hb))
     ·obtain⟨a2,h⟩:=qrd (B:=B) H h;by_cases hs:(wAt s ls k).2=[59]
      ·rw[if_pos hs] at h;have e:=h.ret;cases e;exact r38_l0_out5 a1 (by omega) (r82 (isB H hk stopsW hb)) a2 hs
      ·rw[if_neg hs] at h;exact r38_l0_next2 a1 (by omega) (r82 (isB H hk stopsW hb)) a2 hs (hc.2 _ _ _ _ _ _ h.lst h.le h.ok b)
  |sp=>
   intro f b q hf hq;rcases h.ifK with⟨h5,h⟩ | ⟨h5,h⟩
   ·have e:=h.ret;cases e;exact r54_l0_out1 (kdT H hk 5 h5)
   ·have a1:=kdF (B:=B) (D:=D) H hk 5 h5;rcases h.ifW with⟨hb,h⟩ | ⟨hb,h⟩
    ·have e:=h.ret;cases e;exact r54_l0_out2 a1 (by omega) rfl (r55 (hq _ _) (isB H hk [wProc,wRec] hb))
    ·obtain⟨a2,h⟩:=qread (B:=B) H h;exact r54_l0_next2 a1 (by omega) rfl (r55 (hq _ _) (isB H hk [wProc,wRec] hb)) a2 (hc.2 _ _ _ _ _ _ h.lst h.le h.ok f b q (by omega) hq)
  |pg acc=>
   intro hl T hq;have hlen:(Tr.pvs (trPs ls acc)).length+1≤AqC:=by rw[Tr.AjL,List.length_map,trPs_len];unfold big4 at hl;unfold AqC;omega
   rcases h.ifK with⟨h5,h⟩ | ⟨h5,h⟩
   ·have e:=h.ret;cases e;exact r23_l0_out1 (hq _ _) (kdT H hk 5 h5)
   ·have a1:=kdF (B:=B) (D:=D) H hk 5 h5;rcases h.ifW with⟨hb,h⟩ | ⟨hb,h⟩
    ·obtain⟨x,k2,D2,l2,a2,h⟩:=qrecord H hc hn hb h;have a3:=hc.2 _ _ _ _ _ _ h.lst h.le h.ok (by simp;omega) T hq
     rw[AkO,AwF] at a3;exact r23_l0_next1 (hq _ _) a1 (isB H hk [wRec] hb) a2 hlen a3
    ·have a2:=isB (B:=B) (D:=D) H hk [wRec] hb;rcases h.ifW with⟨hb2,h⟩ | ⟨hb2,h⟩
     ·obtain⟨x,k2,D2,l2,a3,h⟩:=qproc H hc hn hb2 h;have a4:=hc.2 _ _ _ _ _ _ h.lst h.le h.ok (by simp;omega) T hq
      rw[AkO,AwF] at a4;exact r23_l0_next2 (hq _ _) a1 a2 (isB H hk [wProc] hb2) a3 hlen a4
     ·have a3:=isB (B:=B) (D:=D) H hk [wProc] hb2;obtain⟨a4,h⟩:=q53 (B:=B) H h;obtain⟨a5,h⟩:=qread (B:=B) H h.mrk;obtain⟨u,k2,D2,h1,l2,h2⟩:=h.call hc.1;have a6:=hc.2 _ _ _ _ _ _ h1 h.le h.ok k (en ls k) (T.length+1) (by omega) hq
      have a7:LL a64 0 [(0,some rf),(1,some (.func 65 [] [.ref (T.length+1) 0])),(4,some Z0),(5,some (N k)),(6,some (N (en ls k)))] (PS4 s ls B k (rp D 7 k [])) (.exit 0) [(0,some rf),(4,some Z0),(5,some (N k)),(6,some (N (en ls k)))] (PS4 s ls B k2 D2):=
       r54_l0_next1 (kdF H hk 5 h5) rfl a5 a6
      have h3:=h2.bd;have a8:=hc.2 _ _ _ _ _ _ h3.lst h3.le h3.ok (by simp;omega) T hq
      rw[AkO,AwF] at a8;exact r23_l0_next3 (hq _ _) a1 a2 a3 a4 (hq _ _) (r54 p75 a7 (nd0 H (by omega) h3.le 1 [] false)) hlen a8
end
end Go.Abs.Z

namespace Go.Abs.Z
section
variable{w:Nat→Wd}{m:Nat}{c c':NT→Nat→List AD→Ans3}{p q:Pg}{k:Nat}
def Tot(w:Nat→Wd)(m:Nat)(c:NT→Nat→List AD→Ans3)(p:Pg)(k:Nat):Prop:=k≤m→∀D,Dok k D→∃r,runP w c p k D=some r
theorem Tot.ret{v:Rs}:Tot w m c (.ret v) k:=fun _ D _=>⟨_,rfl⟩
theorem Tot.look{f:Wd→Wd→Nat→Pg}(h:Tot w m c (f (w k) (w (k+1)) k) k):Tot w m c (.look f) k:=h
theorem Tot.mrk{g:Nat→Pg}(h:Tot w m c (g k) k):Tot w m c (Pg.mrk g) k:=h
theorem Tot.bd{kd f:Nat}{tx:List UInt8}{b:Bool}{ks:List AT}{g:AT→Pg}(h:∀x,Tot w m c (g x) k):Tot w m c (Pg.bd kd tx f b ks g) k:=h _
theorem Tot.nod{kd f:Nat}{tx:List UInt8}{ks:List AT}:Tot w m c (Pg.nod kd tx f ks) k:=Tot.bd fun _=>.ret
theorem Tot.rep{e:Nat}{t:List UInt8}(h:Tot w m c p k):Tot w m c (.report e t p) k:=fun hk D hD=>h hk _ (hD.rp e t)
theorem Tot.ifW{ws:List (List UInt8)}(h1:ws.contains (w k).2=true→Tot w m c p k)(h2:ws.contains (w k).2=false→Tot w m c q k):Tot w m c (Pg.ifW ws p q) k:=by
 show Tot w m c (if ws.contains (w k).2=true then p else q) k
 cases hb:ws.contains (w k).2 with
 |true=>exact h1 hb
 |false=>exact h2 hb
theorem Tot.ifK{j:Nat}(h1:(w k).1=j→Tot w m c p k)(h2:(w k).1≠j→Tot w m c q k):Tot w m c (Pg.ifK j p q) k:=by
 show Tot w m c (if(w k).1=j then p else q) k
 by_cases hb:(w k).1=j
 ·rw[if_pos hb];exact h1 hb
 ·rw[if_neg hb];exact h2 hb
theorem Tot.read(he:w m=(5,[]))(h5:(w k).1≠5)(h:k<m→Tot w m c p (k+1)):Tot w m c (.read p) k:=fun hk D hD=>by
 have hlt:k<m:=by
  rcases Nat.lt_or_ge k m with h' | h'
  ·exact h'
  ·have:k=m:=by omega
   subst this;rw[he] at h5;exact absurd rfl h5
 show ∃r,(if(w k).1=5 then none else runP w c p (k+1) D)=some r
 rw[if_neg h5];exact h hlt hlt D (hD.le (by omega))
theorem ne5(he:w m=(5,[]))(h5:∀k,k≤m→(w k).1=5→(w k).2=[])(hk:k≤m){ws:List (List UInt8)}(hb:ws.contains (w k).2=true)(hn:ws.contains []=false):(w k).1≠5:=by
 intro e;rw[h5 k hk e,hn] at hb;cases hb
structure Wok(w:Nat→Wd)(m:Nat):Prop where
 fin:w m=(5,[])
 nil:∀k,k≤m→(w k).1=5→(w k).2=[]
theorem Tot.ac(H:Wok w m){ws:List (List UInt8)}(hn:ws.contains []=false)(h1:k<m→Tot w m c p (k+1))(h2:Tot w m c q k):Tot w m c (Pg.ifW ws (.read p) q) k:=fun hk=>
 Tot.ifW (fun hb=>Tot.read H.fin (ne5 H.fin H.nil hk hb hn) h1) (fun _=>h2) hk
theorem Tot.rd(he:w m=(5,[]))(h5:(w k).1≠5){g:List UInt8→Pg}(h:k<m→∀x,Tot w m c (g x) (k+1)):Tot w m c (Pg.rd g) k:=Tot.read he h5 (fun hl=>h hl _)
theorem Tot.xp(H:Wok w m){x:List UInt8}(hx:x≠[])(h:∀k1,k≤k1→Tot w m c p k1):Tot w m c (Pg.xp x p) k:=
 Tot.ac H (by cases x with | nil=>exact absurd rfl hx | cons a l=>rfl) (fun _=>h _ (by omega)) (.rep (h _ (Nat.le_refl _)))
theorem Tot.nm(H:Wok w m){g:List UInt8→Pg}(h:∀x k1,k≤k1→Tot w m c (g x) k1):Tot w m c (Pg.nm g) k:=
 Tot.ifK (fun h0=>Tot.rd H.fin (by omega) fun _ x=>h x _ (by omega)) (fun _=>.rep (h _ _ (Nat.le_refl _)))
theorem Tot.num(H:Wok w m){g:List UInt8→Pg}(h:∀x k1,k≤k1→Tot w m c (g x) k1):Tot w m c (Pg.num g) k:=
 Tot.ifK (fun h0=>Tot.rd H.fin (by omega) fun _ x=>h _ _ (by omega)) (fun _=>.rep (h _ _ (Nat.le_refl _)))
theorem Tot.nop{g:AT→Pg}(h:∀x,Tot w m c (g x) k):Tot w m c (Pg.nop g) k:=h _
theorem Tot.miss{g:AT→Pg}(h:∀x,Tot w m c (g x) k):Tot w m c (Pg.miss g) k:=h _
def TotC(m:Nat)(c:NT→Nat→List AD→Ans3)(x:NT)(k:Nat):Prop:=k≤m→∀D,Dok k D→∃r,c x k D=some r
theorem Tot.call(hc:OkI m c){x:NT}{f:Rs→Pg}(hx:TotC m c x k)(h:∀v k1,k≤k1→Tot w m c (f v) k1):Tot w m c (.call x f) k:=fun hk D hD=>by
 obtain⟨⟨v,k1,D1⟩,h1⟩:=hx hk D hD;obtain⟨a1,a2,a3⟩:=hc x k D _ h1 hk hD;obtain⟨r,h2⟩:=h v k1 a1 a2 D1 a3;exact⟨r,by simp only[runP,h1,Option.bind_some];exact h2⟩
theorem Tot.cl(hc:OkI m c){x:NT}{g:AT→Pg}(hx:TotC m c x k)(h:∀v k1,k≤k1→Tot w m c (g v) k1):Tot w m c (Pg.cl x g) k:=Tot.call hc hx fun v=>h v.1
theorem Tot.lst(hc:OkI m c){x:NT}(hx:TotC m c x k):Tot w m c (Pg.lst x) k:=Tot.call hc hx fun _ _ _=>.ret
theorem Tot.wr(H:Wok w m){g:AT→Pg}(h:∀x k1,k≤k1→Tot w m c (g x) k1):Tot w m c (written g) k:=
 Tot.ac H rfl (fun _=>.mrk<|Tot.ac H rfl (fun _=>Tot.ac H rfl (fun _=>.num H fun x k1 l1=>.xp H (by decide) fun k2 l2=>.bd fun y=>h y _ (by omega)) (.bd fun y=>h y _ (by omega)))
  (Tot.ac H rfl (fun _=>.bd fun y=>h y _ (by omega)) (.ifK (fun h0=>.rd H.fin (by omega) fun _ x=>.bd fun y=>h y _ (by omega)) (fun _=>.rep (.miss fun y=>h y _ (by omega))))))
  (.nop fun x=>h x _ (Nat.le_refl _))
theorem Tot.fd(H:Wok w m){g:AT→Pg}(h:∀x k1,k≤k1→Tot w m c (g x) k1):Tot w m c (fieldP g) k:=
 .mrk<|.nm H fun x k1 l1=>.xp H (by decide) fun k2 l2 hk2=>Tot.ifW (fun hb=>.mrk<|.rd H.fin (ne5 H.fin H.nil hk2 hb rfl) fun _ t=>.bd fun y=>.bd fun z=>h z _ (by omega))
  (fun _=>.rep (.miss fun y=>.bd fun z=>h z _ (by omega))) hk2
theorem Tot.pa(H:Wok w m){g:AT→Pg}(h:∀x k1,k≤k1→Tot w m c (g x) k1):Tot w m c (AJT g) k:=
 .mrk<|Tot.ac H rfl (fun _=>.nm H fun x k1 l1=>.wr H fun t k2 l2=>.bd fun y=>h y _ (by omega)) (.nm H fun x k1 l1=>.wr H fun t k2 l2=>.bd fun y=>h y _ (by omega))
theorem Tot.var(H:Wok w m){g:AT→Pg}(h:∀x k1,k≤k1→Tot w m c (g x) k1):Tot w m c (Aj4 g) k:=
 .mrk<|.nm H fun x k1 l1=>.bd fun y=>h y _ l1
theorem Tot.el(H:Wok w m)(hc:OkI m c)(e:El){g:AT→Pg}(hx:TotC m c (.ex 1) k)(h:∀x k1,k≤k1→Tot w m c (g x) k1):Tot w m c (elemP e g) k:=by
 cases e with
 |fd=>exact .fd H h
 |pa=>exact .pa H h
 |ex=>exact .cl hc hx h
theorem Tot.li(H:Wok w m)(hc:OkI m c)(e:El){g:List AT→Pg}(hx:TotC m c (.ex 1) k)(ht:∀acc k1,k≤k1→TotC m c (.tl e acc) k1)(h:∀x k1,k≤k1→Tot w m c (g x) k1):Tot w m c (listP e g) k:=
 .el H hc e hx fun x k1 l1=>.call hc (ht _ _ l1) fun v k2 l2=>h _ _ (by omega)
end
def rk:NT→Nat
 |.ex 1=>6
 |.ex 2=>5
 |.ex 3=>4
 |.ex 5=>3
 |.ex 6=>2
 |.ex _=>1
 |.st=>7
 |.sts _=>8
 |.pg _=>9
 |_=>0
def mu(m:Nat)(x:NT)(k:Nat):Nat:=(m - k) * 10+rk x+1
def okNT:NT→Prop
 |.ex L=>L=1∨L=2∨L=3∨L=5∨L=6∨L=7
 |.lp L _ _=>L=1∨L=2∨L=5∨L=6
 |_=>True
section
variable{w:Nat→Wd}{m:Nat}
theorem st_pro(H:Wok w m){n k:Nat}{D:List AD}{r:Rs×Nat×List AD}(hk:k≤m)(hD:Dok k D)(h5:(w k).1≠5)(hs:stopW.contains (w k).2=false)(hr:runN w (n+1) .st k D=some r):k<r.2.1:=by
 have hm:(w m).1=5:=by rw[H.fin]
 have hI:=AzK (w:=w) hm n
 have fin:∀{p:Pg} {D1:List AD},G3 w m (runN w n) r p (k+1) D1→k<r.2.1:=fun {p D1} h=>by
  have:=(Aw8 hm hI p _ _ r h.run h.le h.ok).1;omega
 have h:G3 w m (runN w n) r (prog .st) k D:=⟨hr,hk,hD⟩;rcases h.ifW with⟨_,h⟩ | ⟨_,h⟩
 ·exact fin (h.mrk.read hm).2
 rcases h.ifW with⟨_,h⟩ | ⟨_,h⟩
 ·have h1:=h.lst;cases n with
  |zero=>cases h1
  |succ n=>
   have h2:G3 w m (runN w n) r (prog .br) k D:=⟨h1,hk,hD⟩;have h3:=(h2.mrk.read hm).2;have:=(Aw8 hm (AzK hm n) _ _ _ r h3.run h3.le h3.ok).1;omega
 rcases h.ifW with⟨_,h⟩ | ⟨_,h⟩
 ·exact fin (h.mrk.read hm).2
 rcases h.ifW with⟨_,h⟩ | ⟨_,h⟩
 ·exact fin (h.mrk.read hm).2
 rcases h.ifW with⟨_,h⟩ | ⟨_,h⟩
 ·exact fin (h.mrk.read hm).2
 rcases h.ifW with⟨_,h⟩ | ⟨_,h⟩
 ·exact fin (h.mrk.read hm).2
 rcases h.ifK with⟨h0,h⟩ | ⟨_,h⟩
 ·have h:=h.mrk.look;by_cases hp:(w (k+1)).2=[40]
  ·rw[if_pos hp] at h;exact fin (h.rd hm).2
  ·rw[if_neg hp] at h;rcases h.mrk.mrk.ifK with⟨_,h⟩ | ⟨h',_⟩
   ·exact fin (h.rd hm).2
   ·exact absurd h0 h'
 ·obtain⟨v,k1,D1,h1,l1,h2⟩:=h.rep.mrk.call hI;cases n with
  |zero=>cases h1
  |succ n=>
   have g:G3 w m (runN w n) (v,k1,D1) (prog (.sk k)) k (rp D 6 k []):=⟨h1,hk,hD.rp 6 []⟩;rcases g.ifK with⟨h',_⟩ | ⟨_,g⟩
   ·exact absurd h' h5
   ·have g:=g.mrk;rw[if_pos rfl] at g;rcases g.ifW with⟨hb,_⟩ | ⟨_,g⟩
    ·rw[hs] at hb;cases hb
    ·have g2:=(g.rd hm).2;have e1:=(Aw8 hm (AzK hm n) _ _ _ _ g2.run g2.le g2.ok).1;have e2:=(Aw8 hm hI _ _ _ r h2.run h2.le h2.ok).1;have e1:k+1≤k1:=e1;omega
theorem mu_lt{x y:NT}{k k1:Nat}(h:k<k1)(hm:k1≤m)(hx:rk y≤9):mu m y k1<mu m x k:=by unfold mu;omega
theorem rk9(x:NT):rk x≤9:=by
 cases x with
 |ex L=>unfold rk;split<;>omega
 |_=>simp[rk]
theorem run_all(H:Wok w m):∀n x k,okNT x→(x=.br→(w k).1≠5)→mu m x k≤n→TotC m (runN w n) x k
 |0,x,k,_,_,h=>by unfold mu at h;omega
 |n+1,x,k,hx,hbr,h=>by
  have hm:(w m).1=5:=by rw[H.fin]
  have hc:=AzK (w:=w) hm n;have IH:=run_all H n
  suffices hs:Tot w m (runN w n) (prog x) k from hs
  have nx:∀y k1,okNT y→k<k1→(hb:y=.br→(w k1).1≠5:=by intro e;cases e)→TotC m (runN w n) y k1:=fun y k1 hy hl hb hk1=>IH y k1 hy hb (by have:=mu_lt (m:=m) (x:=x) hl hk1 (rk9 y);omega) hk1
  have lo:∀y k1,okNT y→rk y<rk x→k≤k1→(hb:y=.br→(w k1).1≠5:=by intro e;cases e)→TotC m (runN w n) y k1:=fun y k1 hy hr hl hb hk1=>by
   refine IH y k1 hy hb ?_ hk1
   rcases Nat.lt_or_ge k k1 with h' | h'
   ·have:=mu_lt (m:=m) (x:=x) h' hk1 (rk9 y);omega
   ·have:k=k1:=by omega
    subst this;unfold mu at h ⊢;omega
  have hex1:okNT (.ex 1):=.inl rfl
  have args:∀{k1:Nat} {g:List AT→Pg},k≤k1→(w k1).1≠5∨True→(∀l k2,k<k2→Tot w m (runN w n) (g l) k2)→(w k1).1≠5→Tot w m (runN w n) (argsP g) k1:=fun {k1 g} l1 _ hg h5=>
   .read H.fin h5 fun hlt=>.ifW (fun hb=>.xp H (by decide) fun k2 l2=>hg _ _ (by omega)) (fun hb=>.li H hc .ex (nx _ _ hex1 (by omega)) (fun acc k2 l2=>nx _ _ trivial (by omega)) fun l k2 l2=>.xp H (by decide) fun k3 l3=>hg _ _ (by omega))
  have place:∀{k1:Nat} {g:AT→Pg},k≤k1→(∀x k2,k1≤k2→Tot w m (runN w n) (g x) k2)→Tot w m (runN w n) (AX3 g) k1:=fun {k1 g} l1 hg=>
   .mrk<|.var H fun v k2 l2=>Tot.ac H rfl (fun hl=>.cl hc (nx _ _ hex1 (by omega)) fun y k3 l3=>.xp H (by decide) fun k4 l4=>.bd fun z=>hg z _ (by omega))
    (Tot.ac H rfl (fun _=>.nm H fun x k3 l3=>.bd fun z=>hg z _ (by omega)) (hg v _ l2))
  have low:∀L,okNT (.ex (L+1))→rk (.ex (L+1)) < rk x→0<rk x→(L=1∨L=2∨L=5∨L=6)→Tot w m (runN w n) (Pg.mrk fun f=>Pg.cl (.ex (L+1)) fun x=>Pg.lst (.lp L f x)) k:=fun L h1 h2 h3 h4=>
   .mrk<|.cl hc (lo _ _ h1 h2 (Nat.le_refl _)) fun v k1 l1=>.lst hc (lo _ _ h4 h3 l1)
  cases x with
  |ex L=>
   rcases hx with rfl | rfl | rfl | rfl | rfl | rfl
   ·exact low 1 (by simp[okNT]) (by decide) (by decide) (by simp)
   ·exact low 2 (by simp[okNT]) (by decide) (by decide) (by simp)
   ·refine .mrk<|Tot.ac H rfl (fun hl=>.cl hc (nx _ _ (by simp[okNT]) (by omega)) fun v k1 l1=>.nod) ?_
    exact .mrk<|.cl hc (lo (.ex 5) _ (by simp[okNT]) (by decide) (Nat.le_refl _)) fun v k1 l1 hk1=>Tot.ifW (fun hb=>.rd H.fin (ne5 H.fin H.nil hk1 hb rfl) fun _ o=>.cl hc (nx _ _ (by simp[okNT]) (by omega)) fun y k2 l2=>.nod) (fun _=>.ret) hk1
   ·exact low 5 (by simp[okNT]) (by decide) (by decide) (by simp)
   ·exact low 6 (by simp[okNT]) (by decide) (by decide) (by simp)
   ·refine .mrk<|Tot.ac H rfl (fun hl=>.cl hc (nx _ _ (by simp[okNT]) (by omega)) fun v k1 l1=>.nod) ?_
    refine .mrk<|.ifK (fun h2=>.rd H.fin (by omega) fun _ x=>.nod) fun _=>?_
    intro hk;refine Tot.ifW (fun hb=>.rd H.fin (ne5 H.fin H.nil hk hb rfl) fun _ x=>.nod) (fun _=>?_) hk
    refine .look ?_
    by_cases h0:(w k).1=0
    ·by_cases hp:(w (k+1)).2=[40]
     ·rw[if_pos ⟨h0,hp⟩];refine .rd H.fin (by omega) fun hl x hk1=>args (by omega) (.inr trivial) (fun l k2 l2=>.nod) ?_ hk1
      intro e;have:=H.nil _ hk1 e;rw[hp] at this;cases this
     ·rw[if_neg (fun x=>hp x.2),if_pos h0]
      exact place (Nat.le_refl _) fun x k2 l2=>.ret
    ·rw[if_neg (fun x=>h0 x.1),if_neg h0]
     exact Tot.ac H rfl (fun hl=>.li H hc .ex (nx _ _ hex1 (by omega)) (fun acc k2 l2=>nx _ _ trivial (by omega)) fun l k2 l2=>.xp H (by decide) fun k3 l3=>.nod)
      (Tot.ac H rfl (fun hl=>.xp H (by decide) fun k2 l2=>.var H fun v k3 l3=>.xp H (by decide) fun k4 l4=>.nod)
      (Tot.ac H rfl (fun hl=>.cl hc (nx _ _ hex1 (by omega)) fun v k2 l2=>.xp H (by decide) fun k3 l3=>.ret)
      (.rep (.miss fun x=>.ret))))
  |lp L f x=>
   have hn:(opL L).contains []=false:=by rcases hx with rfl | rfl | rfl | rfl<;>rfl
   show Tot w m (runN w n) (Pg.ifW (opL L) (Pg.rd fun o=>Pg.cl (.ex (L+1)) fun y=>Pg.bd 29 o f false [x,y] fun z=>Pg.lst (.lp L f z)) (.ret (x,[]))) k
   intro hk;exact Tot.ifW (fun hb=>.rd H.fin (ne5 H.fin H.nil hk hb hn) fun _ o=>.cl hc (nx _ _ (by rcases hx with rfl | rfl | rfl | rfl<;>simp[okNT]) (by omega)) fun y k2 l2=>.bd fun z=>.lst hc (nx _ _ hx (by omega))) (fun _=>.ret) hk
  |tl e acc=>exact Tot.ac H rfl (fun hl=>.el H hc e (nx _ _ hex1 (by omega)) fun x k1 l1=>.lst hc (nx _ _ trivial (by omega))) .ret
  |bk=>exact .mrk<|Tot.ac H rfl (fun hl=>.call hc (nx _ _ trivial (by omega)) fun v k1 l1=>.xp H (by decide) fun k2 l2=>.nod) (.rep (.bd fun x=>.ret))
  |sts acc=>
   refine .ifW (fun _=>.ret) fun hs=>.ifK (fun _=>.ret) fun h5=>?_
   intro hk D hD;have hst:=lo .st k trivial (by simp[rk]) (Nat.le_refl _) (fun e=>by cases e) hk D hD
   obtain⟨⟨v,k1,D1⟩,h1⟩:=hst;obtain⟨a1,a2,a3⟩:=hc _ _ _ _ h1 hk hD
   have hlt:k<k1:=by
    cases n with
    |zero=>cases h1
    |succ n=>exact st_pro H hk hD h5 hs h1
   obtain⟨r,h2⟩:=nx (.sts (acc++[v.1])) k1 trivial hlt (fun e=>by cases e) a2 D1 a3
   exact⟨r,by simp only[Pg.cl,runP,h1,Option.bind_some,Pg.lst];rw[h2];rfl⟩
  |st=>
   intro hk;refine Tot.ifW (fun hb=>.mrk<|.read H.fin (ne5 H.fin H.nil hk hb rfl) fun _=>.nm H fun x k1 l1=>.wr H fun t k2 l2=>.xp H (by decide) fun k3 l3=>.cl hc (nx _ _ hex1 (by omega)) fun v k4 l4=>.xp H (by decide) fun k5 l5=>.nod) (fun _=>?_) hk
   refine .ifW (fun hb=>.lst hc (lo .br _ trivial (by simp[rk]) (Nat.le_refl _) (fun _=>ne5 H.fin H.nil hk hb rfl))) (fun _=>?_)
   refine .ifW (fun hb=>.mrk<|.read H.fin (ne5 H.fin H.nil hk hb rfl) fun _=>.cl hc (nx _ _ hex1 (by omega)) fun v k1 l1=>.cl hc (nx _ _ trivial (by omega)) fun b k2 l2=>.nod) (fun _=>?_)
   refine .ifW (fun hb=>.mrk<|.read H.fin (ne5 H.fin H.nil hk hb rfl) fun _=>.nm H fun x k1 l1=>.xp H (by decide) fun k2 l2=>.cl hc (nx _ _ hex1 (by omega)) fun v k3 l3=>.xp H (by decide) fun k4 l4=>
    .cl hc (nx _ _ hex1 (by omega)) fun v k5 l5=>.cl hc (nx _ _ trivial (by omega)) fun b k6 l6=>.nod) (fun _=>?_)
   refine .ifW (fun hb=>.mrk<|.read H.fin (ne5 H.fin H.nil hk hb rfl) fun _=>.look ?_) (fun _=>?_)
   ·cases begE (w (k+1)) with
    |true=>rw[if_pos rfl];exact .cl hc (nx _ _ hex1 (by omega)) fun v k1 l1=>.xp H (by decide) fun k2 l2=>.nod
    |false=>rw[if_neg (by simp)];exact .nop fun x=>.xp H (by decide) fun k2 l2=>.nod
   refine .ifW (fun hb=>.mrk<|.read H.fin (ne5 H.fin H.nil hk hb rfl) fun _=>.cl hc (nx _ _ hex1 (by omega)) fun v k1 l1=>.xp H (by decide) fun k2 l2=>.nod) (fun _=>?_)
   refine .ifK (fun h0=>.mrk<|.look ?_) fun _=>.rep<|.mrk<|.call hc (lo _ _ trivial (by simp[rk]) (Nat.le_refl _)) fun v k1 l1=>.nod
   by_cases hp:(w (k+1)).2=[40]
   ·rw[if_pos hp];refine .rd H.fin (by omega) fun hl x hk1=>args (by omega) (.inr trivial) (fun l k2 l2=>.xp H (by decide) fun k3 l3=>.nod) ?_ hk1
    intro e;have:=H.nil _ hk1 e;rw[hp] at this;cases this
   ·rw[if_neg hp];exact place (Nat.le_refl _) fun x k2 l2=>.xp H (by decide) fun k3 l3=>.cl hc (lo _ _ hex1 (by decide) (by omega)) fun v k4 l4=>.xp H (by decide) fun k5 l5=>.nod
  |br=>
   exact Tot.mrk (.read H.fin (hbr rfl) fun _=>.cl hc (nx _ _ hex1 (by omega)) fun v k1 l1=>.cl hc (nx _ _ trivial (by omega)) fun b k2 l2=>Tot.ac H rfl (fun hl hk3=>Tot.ifW (fun hb=>.cl hc (nx .br _ trivial (by omega) (fun _=>ne5 H.fin H.nil hk3 hb rfl)) fun o k3 l3=>.nod)
    (fun _=>.cl hc (nx _ _ trivial (by omega)) fun o k3 l3=>.nod) hk3) (.nop fun o=>.nod))
  |sk f=>
   refine .ifK (fun _=>.ret) fun h5=>.mrk ?_
   by_cases hf:k=f
   ·rw[if_pos hf];refine .ifW (fun _=>.ret) fun _=>.rd H.fin h5 fun _ x=>?_
    by_cases hs:x=[59]
    ·rw[if_pos hs];exact .ret
    ·rw[if_neg hs];exact .lst hc (nx _ _ trivial (by omega))
   ·rw[if_neg hf];refine .ifW (fun _=>.ret) fun _=>.rd H.fin h5 fun _ x=>?_
    by_cases hs:x=[59]
    ·rw[if_pos hs];exact .ret
    ·rw[if_neg hs];exact .lst hc (nx _ _ trivial (by omega))
  |sp=>exact .ifK (fun _=>.ret) fun h5=>.ifW (fun _=>.ret) fun _=>.read H.fin h5 fun _=>.lst hc (nx _ _ trivial (by omega))
  |pg acc=>
   refine .ifK (fun _=>.ret) fun h5=>?_
   refine .ifW (fun hb=>.mrk<|.read H.fin h5 fun _=>.nm H fun x k1 l1=>.xp H (by decide) fun k2 l2=>.li H hc .fd (nx _ _ hex1 (by omega)) (fun acc k3 l3=>nx _ _ trivial (by omega)) fun l k3 l3=>.xp H (by decide) fun k4 l4=>.bd fun y=>.lst hc (nx _ _ trivial (by omega))) fun _=>?_
   refine .ifW (fun hb=>.mrk<|.read H.fin h5 fun _=>.nm H fun x k1 l1=>.mrk<|.xp H (by decide) fun k2 l2=>?_) fun _=>.rep<|.mrk<|.read H.fin h5 fun _=>.call hc (nx _ _ trivial (by omega)) fun v k1 l1=>.bd fun y=>.lst hc (nx _ _ trivial (by omega))
   have rest:∀(y:AT) (k3:Nat),k<k3→Tot w m (runN w n) (written fun t=>Pg.cl .bk fun b=>Pg.bd 5 x k false [y,t,b] fun x=>Pg.lst (.pg (acc++[x]))) k3:=fun y k3 l3=>
    .wr H fun t k4 l4=>.cl hc (nx _ _ trivial (by omega)) fun b k5 l5=>.bd fun z=>.lst hc (nx _ _ trivial (by omega))
   exact .ifW (fun _=>.xp H (by decide) fun k3 l3=>.bd fun y=>rest y _ (by omega)) (fun _=>.li H hc .pa (nx _ _ hex1 (by omega)) (fun acc k3 l3=>nx _ _ trivial (by omega)) fun l k3 l3=>.xp H (by decide) fun k4 l4=>.bd fun y=>rest y _ (by omega))
end
end Go.Abs.Z

namespace Go.Abs.Z
def Asc(l:List Dg):Prop:=l.Pairwise fun d e=>d.a≤e.a
def fk(k:Nat)(l:List Dg):List Dg:=l.filter fun d=>d.a==k
structure Sd(l r:List Dg):Prop where
 asc:Asc r
 perm:r.Perm l
 keep:∀k,fk k r=fk k l
theorem AzA(k:Nat)(l m:List Dg):fk k (l++m)=fk k l++fk k m:=List.filter_append ..
theorem AkH{l m:List Dg}:Asc (l++m)↔Asc l∧Asc m∧∀x∈l,∀y∈m,x.a≤y.a:=List.pairwise_append
theorem Sd.len{l r:List Dg}(h:Sd l r):r.length=l.length:=h.perm.length_eq
theorem Sd.mem{l r:List Dg}(h:Sd l r){d:Dg}:d∈r↔d∈l:=h.perm.mem_iff
theorem Sd.refl{l:List Dg}(h:Asc l):Sd l l:=⟨h,.refl _,fun _=>rfl⟩
theorem Sd.trans{l m r:List Dg}(h:Sd l m)(h':Sd m r):Sd l r:=⟨h'.asc,h'.perm.trans h.perm,fun k=>(h'.keep k).trans (h.keep k)⟩
theorem fk_ne{k:Nat}{x y:Dg}(h:x.a≠y.a)(l:List Dg):fk k (x::y::l)=fk k (y::x::l):=by
 simp only[fk,List.filter_cons];by_cases h1:x.a=k
 ·have:¬y.a=k:=fun h2=>h (h1.trans h2.symm)
  simp[h1,this]
 ·simp[h1]
theorem fk_comm{k:Nat}{u v:List Dg}(h:∀x∈u,∀y∈v,x.a≠y.a):fk k (u++v)=fk k (v++u):=by
 rw[AzA,AzA];by_cases hu:fk k u=[]
 ·rw[hu];simp
 ·by_cases hv:fk k v=[]
  ·rw[hv];simp
  ·exfalso
   obtain⟨x,hx⟩:=List.exists_mem_of_ne_nil _ hu;obtain⟨y,hy⟩:=List.exists_mem_of_ne_nil _ hv;simp only[fk,List.mem_filter,beq_iff_eq] at hx hy;exact h x hx.1 y hy.1 (hx.2.trans hy.2.symm)
theorem Sd.join{A1 A2 B1 B2 R1 R2:List Dg}(h1:Sd (A1++B1) R1)(h2:Sd (A2++B2) R2)(hA:Asc (A1++A2))(hB:Asc (B1++B2))(c1:∀x∈A1,∀y∈B2,x.a≤y.a)(c2:∀x∈A2,∀y∈B1,y.a<x.a):
  Sd ((A1++A2)++(B1++B2)) (R1++R2):=by
 have hA':=(AkH.1 hA).2.2;have hB':=(AkH.1 hB).2.2;refine⟨AkH.2 ⟨h1.asc,h2.asc,fun x hx y hy=>?_⟩,?_,fun k=>?_⟩
 ·rcases List.mem_append.1 (h1.mem.1 hx) with hx | hx<;>rcases List.mem_append.1 (h2.mem.1 hy) with hy | hy
  ·exact hA' x hx y hy
  ·exact c1 x hx y hy
  ·exact Nat.le_of_lt (c2 y hy x hx)
  ·exact hB' x hx y hy
 ·refine(h1.perm.append h2.perm).trans ?_
  rw[List.append_assoc,List.append_assoc];refine List.Perm.append_left _ ?_
  rw[←List.append_assoc,←List.append_assoc];exact List.Perm.append_right _ List.perm_append_comm
 ·rw[AzA,h1.keep,h2.keep,AzA,AzA,AzA,AzA,AzA];have:=fk_comm (k:=k) (u:=A2) (v:=B1) fun x hx y hy=>by have:=c2 x hx y hy;omega
  rw[AzA,AzA] at this;rw[List.append_assoc,List.append_assoc,←List.append_assoc (fk k B1),←this,List.append_assoc]
theorem Sd.nil_right{A:List Dg}(h:Asc A):Sd (A++[]) A:=by simpa using Sd.refl h
theorem keep_mid{P L R Q:List Dg}(h:∀k,fk k R=fk k L)(k:Nat):fk k (P++R++Q)=fk k (P++L++Q):=by rw[AzA,AzA,AzA,AzA,h]
theorem perm_mid{P L R Q:List Dg}(h:R.Perm L):(P++R++Q).Perm (P++L++Q):=(h.append_left P).append_right Q
def seg(l:List Dg)(x y:Nat):List Dg:=(l.drop x).take y
theorem AXG{P R Q:List Dg}{x y:Nat}(h:x+y≤P.length):seg (P++R++Q) x y=seg P x y:=by
 unfold seg;rw[List.append_assoc,List.drop_append_of_le_length (by omega),List.take_append_of_le_length (by rw[List.length_drop];omega)]
theorem seg_right{P R R' Q:List Dg}{x y:Nat}(he:R.length=R'.length)(h:P.length+R.length≤x):seg (P++R++Q) x y=seg (P++R'++Q) x y:=by
 unfold seg
 have e:∀R:List Dg,P.length+R.length≤x→(P++R++Q).drop x=Q.drop (x - (P.length+R.length)):=fun R h=>by
  rw[List.drop_append,List.drop_eq_nil_of_le (by rw[List.length_append];exact h),List.nil_append,List.length_append]
 rw[e R h,e R' (by omega),he]
theorem split3(l:List Dg){x y:Nat}(h:x+y≤l.length):∃P Q,l=P++seg l x y++Q∧P.length=x∧(seg l x y).length=y:=by
 refine⟨l.take x,(l.drop x).drop y,?_,by rw[List.length_take];omega,by unfold seg;rw[List.length_take,List.length_drop];omega⟩
 unfold seg;rw[List.append_assoc,List.take_append_drop,List.take_append_drop]
theorem seg_cat(l:List Dg)(x y z:Nat):seg l x (y+z)=seg l x y++seg l (x+y) z:=by
 unfold seg;rw[List.take_add,List.drop_drop]
end Go.Abs.Z

namespace Go.Abs.Z
open Go.Proofs Go.RowKit
theorem e100{d e:Dg}(h1:d.a<1000000000)(h2:e.a<1000000000):E 131 [d.pv,e.pv] [] (I ((d.a:Int) - e.a)) []:=r100 (by simp[IntKind.wrap,IntKind.bits,IntKind.signed];omega)
theorem AQ5{α:Type}{A:List α}{x:α}{B:List α}{i:Nat}(hi:i=A.length):(A++x::B)[i]?=some x:=by subst hi;simp
theorem AkQ{α:Type}{A:List α}{x y:α}{B:List α}{i:Nat}(hi:i=A.length):(A++x::B).set i y=A++y::B:=by subst hi;simp
section
variable{H T:Sto}{g n:Nat}
abbrev fnc:PV:=.func 131 [] []
theorem sw_loop(hn:n<1000000000):∀(U2 V2:List Dg) (P U1 V1 M Q:List Dg) {a b c i:Nat},U1.length=i→V1.length=i→U2.length=V2.length→a=P.length→b=P.length+(V1.length+U2.length)+M.length→c=i+U2.length→(P++V1++U2++M++U1++V2++Q).length=n→
  LL a274 0 [(0,some (.arr H.length g 0 n 5)),(1,some (N a)),(2,some (N b)),(3,some (N c)),(10,some (N i))] (aS H T g (P++V1++U2++M++U1++V2++Q)) (.exit 0) [] (aS H T g (P++V1++V2++M++U1++U2++Q))
 |[],[],P,U1,V1,M,Q,a,b,c,i,h1,h2,h3,h4,h5,h6,h7=>r157_l0_out1 (by simp at h6;omega)
 |[],_::_,_,_,_,_,_,_,_,_,_,_,_,h3,_,_,_,_=>by simp at h3
 |_::_,[],_,_,_,_,_,_,_,_,_,_,_,h3,_,_,_,_=>by simp at h3
 |u::U2,v::V2,P,U1,V1,M,Q,a,b,c,i,h1,h2,h3,h4,h5,h6,h7=>by
  simp only[List.length_append,List.length_cons] at h3 h5 h6 h7;have e1:P++V1++(u::U2)++M++U1++(v::V2)++Q=(P++V1)++u::(U2++M++U1++v::(V2++Q)):=by simp
  have e2:P++V1++(u::U2)++M++U1++(v::V2)++Q=(P++V1++u::U2++M++U1)++v::(V2++Q):=by simp
  have s1:(P++V1++(u::U2)++M++U1++(v::V2)++Q).set (a+i) v=(P++V1++v::U2++M++U1)++v::(V2++Q):=by
   rw[e1,AkQ (by simp;omega)];simp
  have s2:((P++V1++(u::U2)++M++U1++(v::V2)++Q).set (a+i) v).set (b+i) u=P++(V1++[v])++U2++M++(U1++[u])++V2++Q:=by
   rw[s1,AkQ (by simp;omega)];simp
  refine r157_l0_next1 (by omega) (by omega) (by omega) (by omega) (by omega) (d1:=v) (by rw[e2];exact AQ5 (by simp;omega)) (by omega) (d2:=u) (by rw[e1];exact AQ5 (by simp;omega)) (by simp;omega) (by rw[List.length_set];simp;omega) ?_
  rw[s2];have e3:P++V1++(v::V2)++M++U1++(u::U2)++Q=P++(V1++[v])++V2++M++(U1++[u])++U2++Q:=by simp
  rw[e3];exact sw_loop hn U2 V2 P (U1++[u]) (V1++[v]) M Q (by simp;omega) (by simp;omega) (by omega) h4 (by simp;omega) (by omega) (by simp;omega)
theorem e157(hn:n<1000000000){P U M V Q:List Dg}{a b c:Nat}(h3:U.length=V.length)(h4:a=P.length)(h5:b=P.length+U.length+M.length)(h6:c=U.length)(h7:(P++U++M++V++Q).length=n):
  E 274 [.arr H.length g 0 n 5,N a,N b,N c,fnc] (aS H T g (P++U++M++V++Q)) (.tuple []) (aS H T g (P++V++M++U++Q)):=by
 have:=sw_loop (H:=H) (T:=T) (g:=g) hn U V P [] [] M Q (i:=0) (a:=a) (b:=b) (c:=c) rfl rfl h3 h4 (by simp;omega) (by omega) (by simpa using h7)
 simp only[List.append_nil] at this;exact r157 this
theorem ro_loop(hn:n<1000000000)(m:Nat):∀(k:Nat) (P U V Q:List Dg) {i j:Nat},U.length+V.length≤k→0<i→0<j→i=U.length→j=V.length→m=P.length+U.length→(P++U++V++Q).length=n→
  ∃P' U' V' Q',LL a263 0 [(0,some (.arr H.length g 0 n 5)),(2,some (N m)),(4,some fnc),(10,some (N i)),(11,some (N j))] (aS H T g (P++U++V++Q)) (.exit 0) [(0,some (.arr H.length g 0 n 5)),(2,some (N m)),(4,some fnc),(10,some (N U'.length))] (aS H T g (P'++U'++V'++Q'))∧
   U'.length=V'.length∧m=P'.length+U'.length∧(P'++U'++V'++Q').length=n∧P'++V'++U'++Q'=P++V++U++Q
 |0,P,U,V,Q,i,j,hk,hi,hj,e1,e2,hm,hl=>by omega
 |k+1,P,U,V,Q,i,j,hk,hi,hj,e1,e2,hm,hl=>by
  have hl':=hl;simp only[List.length_append] at hl';by_cases c1:i=j
  ·exact⟨P,U,V,Q,by rw[←e1];exact r154_l0_out1 (by omega),by omega,hm,hl,rfl⟩
  ·by_cases c2:j<i
   ·obtain⟨U1,U2,rfl,hu⟩:∃U1 U2,U=U1++U2∧U1.length=j:=⟨U.take j,U.drop j,(List.take_append_drop j U).symm,by rw[List.length_take];omega⟩
    simp only[List.length_append] at hk e1 hm hl';obtain⟨P',U',V',Q',hL,f1,f2,f3,f4⟩:=ro_loop hn m k (P++V) U2 U1 Q (i:=i - j) (j:=j) (by omega) (by omega) (by omega) (by omega) (by omega) (by simp;omega) (by simp;omega)
    have hs:=e157 (H:=H) (T:=T) (g:=g) hn (P:=P) (U:=U1) (M:=U2) (V:=V) (Q:=Q) (a:=m - i) (b:=m) (c:=j) (by omega) (by omega) (by omega) (by omega) (by simp;omega)
    refine⟨P',U',V',Q',r154_l0_next1 (by omega) (by omega) (by omega) (by omega) (by simpa using hs) (by omega) (by omega) (by simpa using hL),f1,f2,f3,?_⟩
    rw[f4];simp
   ·obtain⟨V1,V2,rfl,hv⟩:∃V1 V2,V=V1++V2∧V1.length=j - i:=⟨V.take (j - i),V.drop (j - i),(List.take_append_drop (j - i) V).symm,by rw[List.length_take];omega⟩
    simp only[List.length_append] at hk e2 hl';obtain⟨P',U',V',Q',hL,f1,f2,f3,f4⟩:=ro_loop hn m k P V2 V1 (U++Q) (i:=i) (j:=j - i) (by omega) (by omega) (by omega) (by omega) (by omega) (by omega) (by simp;omega)
    have hs:=e157 (H:=H) (T:=T) (g:=g) hn (P:=P) (U:=U) (M:=V1) (V:=V2) (Q:=Q) (a:=m - i) (b:=m+j - i) (c:=i) (by omega) (by omega) (by omega) (by omega) (by simp;omega)
    refine⟨P',U',V',Q',r154_l0_next2 (by omega) (by omega) (by omega) (by omega) (by omega) (by omega) (by omega) (by simpa using hs) (by omega) (by simpa using hL),f1,f2,f3,?_⟩
    rw[f4];simp
theorem e154(hn:n<1000000000){P U V Q:List Dg}{a m b:Nat}(hu:U≠[])(hv:V≠[])(h4:a=P.length)(h5:m=P.length+U.length)(h6:b=m+V.length)(h7:(P++U++V++Q).length=n):
  E 263 [.arr H.length g 0 n 5,N a,N m,N b,fnc] (aS H T g (P++U++V++Q)) (.tuple []) (aS H T g (P++V++U++Q)):=by
 have hu':=List.length_pos_iff.2 hu;have hv':=List.length_pos_iff.2 hv;have h7':=h7;simp only[List.length_append] at h7';obtain⟨P',U',V',Q',hL,f1,f2,f3,f4⟩:=ro_loop (H:=H) (T:=T) (g:=g) hn m _ P U V Q (i:=m - a) (j:=b - m) (Nat.le_refl _) (by omega) (by omega) (by omega) (by omega) h5 h7
 have f3':=f3;simp only[List.length_append] at f3';rw[←f4];have hs:=e157 (H:=H) (T:=T) (g:=g) hn (P:=P') (U:=U') (M:=[]) (V:=V') (Q:=Q') (a:=m - U'.length) (b:=m) (c:=U'.length) f1 (by omega) (by simp;omega) rfl (by simp;omega)
 simp only[List.append_nil] at hs;exact r154 (by omega) (by omega) (by omega) (by omega) hL (by omega) hs
end
end Go.Abs.Z

namespace Go.Abs.Z
open Go.Proofs Go.RowKit
section
variable{H T:Sto}{g n:Nat}
def Bd(l:List Dg):Prop:=∀d∈l,d.a<1000000000
theorem in_loop(hn:n<1000000000){a b k:Nat}(P Q:List Dg)(x:Dg):∀(z:Nat) (S1 S2:List Dg) {j:Nat},S1.length=z→a=P.length→j=P.length+S1.length→Asc (S1++S2)→(∀y∈S2,x.a<y.a)→Bd (S1++x::S2)→(P++(S1++x::S2)++Q).length=n→
  ∃R j',LL a234 1 [(0,some (.arr H.length g 0 n 5)),(1,some (N a)),(2,some (N b)),(3,some fnc),(8,some (N k)),(9,some (N j))] (aS H T g (P++(S1++x::S2)++Q)) (.exit 2) [(0,some (.arr H.length g 0 n 5)),(1,some (N a)),(2,some (N b)),(3,some fnc),(8,some (N k)),(9,some (N j'))] (aS H T g (P++R++Q))∧Sd (S1++x::S2) R:=by
 intro z
 induction z with
 |zero=>
  intro S1 S2 j hz ha hj hs hx hb hl;have:=List.length_eq_zero_iff.1 hz;subst this;refine⟨_,j,r149_l1_out1 (by simp at hj;omega),Sd.refl ?_⟩
  exact List.pairwise_cons.2 ⟨fun y hy=>Nat.le_of_lt (hx y hy),by rw[List.nil_append] at hs;exact hs⟩
 |succ z ih=>
  intro S1 S2 j hz ha hj hs hx hb hl
  obtain⟨S1,y,rfl⟩:∃S y,S1=S++[y]:=by
   rcases List.eq_nil_or_concat S1 with h | ⟨S,y,h⟩
   ·rw[h] at hz;cases hz
   ·exact⟨S,y,by simpa using h⟩
  have hl':=hl;simp only[List.length_append,List.length_cons,List.length_nil] at hz;simp only[List.length_append,List.length_cons,List.length_nil] at hl' hj;have e1:P++(S1++[y]++x::S2)++Q=(P++S1++[y])++x::(S2++Q):=by simp
  have e2:P++(S1++[y]++x::S2)++Q=(P++S1)++y::x::(S2++Q):=by simp
  have g1:(P++(S1++[y]++x::S2)++Q)[j]?=some x:=by rw[e1];exact AQ5 (by simp;omega)
  have g2:(P++(S1++[y]++x::S2)++Q)[j - 1]?=some y:=by rw[e2];exact AQ5 (by simp;omega)
  have hc:=e100 (hb x (by simp)) (hb y (by simp))
  by_cases c:x.a<y.a
  ·have s1:((P++(S1++[y]++x::S2)++Q).set j y).set (j - 1) x=P++(S1++x::(y::S2))++Q:=by
    rw[e1,AkQ (by simp;omega)]
    have:(P++S1++[y])++y::(S2++Q)=(P++S1)++y::y::(S2++Q):=by simp
    rw[this,AkQ (by simp;omega)];simp
   obtain⟨R,j',hL,hR⟩:=ih S1 (y::S2) (j:=j - 1) (by omega) ha (by omega) (by simpa using hs) (fun z hz=>by
    rcases List.mem_cons.1 hz with rfl | hz
    ·exact c
    ·exact hx z hz) (fun z hz=>hb z (by simp at hz ⊢;rcases hz with h | h | h | h<;>simp[h])) (by simp;omega)
   refine⟨R,j',r149_l1_next1 (by omega) (by omega) g1 (by omega) (by omega) (by omega) g2 hc (by omega) (by simp;omega) (by rw[List.length_set];simp;omega) (by rw[s1];exact hL),hR.asc,hR.perm.trans ?_,fun z=>(hR.keep z).trans ?_⟩
   ·rw[List.append_assoc];exact List.Perm.append_left _ (List.Perm.swap _ _ _)
   ·rw[List.append_assoc,AzA,AzA];congr 1;exact fk_ne (by omega) _
  ·refine⟨_,j,r149_l1_out2 (by omega) (by omega) g1 (by omega) (by omega) (by omega) g2 hc (by omega),Sd.refl ?_⟩
   rw[AkH] at hs ⊢;refine⟨hs.1,List.pairwise_cons.2 ⟨fun z hz=>Nat.le_of_lt (hx z hz),hs.2.1⟩,fun z hz w hw=>?_⟩
   rcases List.mem_cons.1 hw with rfl | hw
   ·rcases List.mem_append.1 hz with hz | hz
    ·have:=(AkH.1 hs.1).2.2 z hz y (by simp);omega
    ·rw[List.mem_singleton] at hz;subst hz;omega
   ·exact hs.2.2 z hz w hw
theorem is_loop(hn:n<1000000000){a b:Nat}(P Q:List Dg):∀(L S S0:List Dg) {k:Nat},a=P.length→k=P.length+S.length→b=k+L.length→Sd S0 S→Bd (S++L)→(P++(S++L)++Q).length=n→
  ∃R,LL a234 0 [(0,some (.arr H.length g 0 n 5)),(1,some (N a)),(2,some (N b)),(3,some fnc),(8,some (N k))] (aS H T g (P++(S++L)++Q)) (.exit 0) [(1,some (N a))] (aS H T g (P++R++Q))∧Sd (S0++L) R
 |[],S,S0,k,ha,hk,hb,hS,hB,hl=>⟨S,by rw[List.append_nil];exact AX1 (by simp at hb;omega),by simpa using hS⟩
 |x::L,S,S0,k,ha,hk,hb,hS,hB,hl=>by
  have hl':=hl;simp only[List.length_append,List.length_cons] at hl' hb;obtain⟨R1,j,h1,f1⟩:=in_loop (H:=H) (T:=T) (g:=g) (b:=b) (k:=k) hn P (L++Q) x S.length S [] (j:=k) rfl ha hk (by simpa using hS.asc) (fun y h=>by cases h) (fun z hz=>hB z (by simp at hz ⊢;rcases hz with h | h<;>simp[h])) (by simp;omega)
  have hlen:=f1.len;simp only[List.length_append,List.length_cons,List.length_nil] at hlen
  obtain⟨R,h2,f2⟩:=is_loop hn (b:=b) P Q L R1 (S0++[x]) (k:=k+1) ha (by omega) (by omega) ⟨f1.asc,f1.perm.trans (hS.perm.append_right [x]),fun z=>by rw[f1.keep,AzA,AzA,hS.keep]⟩ (fun z hz=>by
   rcases List.mem_append.1 hz with hz | hz
   ·exact hB z (by have:=f1.mem.1 hz;simp at this ⊢;rcases this with h | h<;>simp[h])
   ·exact hB z (by simp[hz])) (by simp;omega)
  refine⟨R,r149_l0_next1 (by omega) (by simpa using h1) (by omega) (by simpa using h2),by simpa using f2⟩
theorem e149(hn:n<1000000000){P L Q:List Dg}{a b:Nat}(ha:a=P.length)(hb:b=a+L.length)(hB:Bd L)(hl:(P++L++Q).length=n):
  ∃R,E 234 [.arr H.length g 0 n 5,N a,N b,fnc] (aS H T g (P++L++Q)) (.tuple []) (aS H T g (P++R++Q))∧Sd L R:=by
 have hl':=hl;simp only[List.length_append] at hl';cases L with
 |nil=>exact⟨[],r149 (by omega) (AX1 (by simp at hb;omega)),Sd.refl List.Pairwise.nil⟩
 |cons x L=>
  simp only[List.length_cons] at hb hl';obtain⟨R,h,f⟩:=is_loop (H:=H) (T:=T) (g:=g) (b:=b) hn P Q L [x] [x] (k:=a+1) ha (by simp;omega) (by omega) (Sd.refl (List.pairwise_singleton _ _)) hB hl
  exact⟨R,r149 (by omega) h,f⟩
theorem bs_gen{LEp:Nat→Nat→Nat→Prop}{f:Nat→Prop}{lo hi:Nat}(out:∀i j,¬i<j→LEp i j i)(next1:∀i j r,lo≤i→i<j→j≤hi→f ((i+j) / 2)→LEp ((i+j) / 2+1) j r→LEp i j r)
  (next2:∀i j r,lo≤i→i<j→j≤hi→¬f ((i+j) / 2)→LEp i ((i+j) / 2) r→LEp i j r) :
  ∀(k i j:Nat),j - i≤k→lo≤i→i≤j→j≤hi→(i=lo∨f (i - 1))→(j=hi∨¬f j)→∃r,LEp i j r∧lo≤r∧r≤hi∧(r=lo∨f (r - 1))∧(r=hi∨¬f r)
 |0,i,j,hk,h1,h2,h3,h4,h5=>by
  have:i=j:=by omega
  subst this;exact⟨i,out i i (by omega),h1,h3,h4,h5⟩
 |k+1,i,j,hk,h1,h2,h3,h4,h5=>by
  by_cases c:i<j
  ·by_cases hf:f ((i+j) / 2)
   ·obtain⟨r,hr,x⟩:=bs_gen out next1 next2 k ((i+j) / 2+1) j (by omega) (by omega) (by omega) h3 (.inr (by simpa using hf)) h5
    exact⟨r,next1 i j r h1 c h3 hf hr,x⟩
   ·obtain⟨r,hr,x⟩:=bs_gen out next1 next2 k i ((i+j) / 2) (by omega) h1 (by omega) (by omega) h4 (.inr hf)
    exact⟨r,next2 i j r h1 c h3 hf hr,x⟩
  ·have:i=j:=by omega
   subst this;exact⟨i,out i i (by omega),h1,h3,h4,h5⟩
def ky(l:List Dg)(i:Nat):Nat:=match l[i]? with
 |some d=>d.a
 |none=>0
theorem ky_of{l:List Dg}{i:Nat}{d:Dg}(h:l[i]?=some d):ky l i=d.a:=by unfold ky;rw[h]
theorem AxC{l:List Dg}{i:Nat}(h:i<l.length):l[i]?=some l[i]:=List.getElem?_eq_getElem h
theorem AkK{l:List Dg}(hb:Bd l){i:Nat}(h:i<l.length):(l[i]).a<1000000000:=hb _ (List.getElem_mem h)
theorem bs0(hn:n<1000000000){Ds:List Dg}(hb:Bd Ds)(hl:Ds.length=n){a m b:Nat}(h1:a<n)(h2:m≤b)(h3:b≤n):
  ∃r,LL a235 0 [(0,some (.arr H.length g 0 n 5)),(1,some (N a)),(2,some (N m)),(3,some (N b)),(4,some fnc),(10,some (N m)),(11,some (N b))] (aS H T g Ds) (.exit 0) [(0,some (.arr H.length g 0 n 5)),(1,some (N a)),(2,some (N m)),(3,some (N b)),(4,some fnc),(10,some (N r))] (aS H T g Ds)∧
   m≤r∧r≤b∧(r=m∨ky Ds (r - 1) < ky Ds a)∧(r=b∨¬ky Ds r<ky Ds a):=by
 refine bs_gen (f:=fun h=>ky Ds h<ky Ds a) (lo:=m) (hi:=b) (LEp:=fun i j r=>LL a235 0 [(0,some (.arr H.length g 0 n 5)),(1,some (N a)),(2,some (N m)),(3,some (N b)),(4,some fnc),(10,some (N i)),(11,some (N j))] (aS H T g Ds) (.exit 0) [(0,some (.arr H.length g 0 n 5)),(1,some (N a)),(2,some (N m)),(3,some (N b)),(4,some fnc),(10,some (N r))] (aS H T g Ds)) ?_ ?_ ?_ _ m b (Nat.le_refl _) (Nat.le_refl _) h2 (Nat.le_refl _) (.inl rfl) (.inl rfl)
 ·exact fun i j h=>r150_l0_out1 (by omega)
 ·intro i j r x1 x2 x3 hf hL;have y1:(i+j) / 2<Ds.length:=by omega
  have y2:a<Ds.length:=by omega
  rw[ky_of (AxC y1),ky_of (AxC y2)] at hf;exact r150_l0_next1 (by omega) (by omega) (by omega) (by omega) (by omega) (by omega) (AxC y1) h1 (AxC y2) (e100 (AkK hb y1) (AkK hb y2)) (by omega) hL
 ·intro i j r x1 x2 x3 hf hL;have y1:(i+j) / 2<Ds.length:=by omega
  have y2:a<Ds.length:=by omega
  rw[ky_of (AxC y1),ky_of (AxC y2)] at hf;exact r150_l0_next2 (by omega) (by omega) (by omega) (by omega) (by omega) (by omega) (AxC y1) h1 (AxC y2) (e100 (AkK hb y1) (AkK hb y2)) (by omega) hL
theorem bs2(hn:n<1000000000){Ds:List Dg}(hb:Bd Ds)(hl:Ds.length=n){a m b:Nat}(h1:m<n)(h2:a≤m):
  ∃r,LL a235 2 [(0,some (.arr H.length g 0 n 5)),(1,some (N a)),(2,some (N m)),(3,some (N b)),(4,some fnc),(14,some (N a)),(15,some (N m))] (aS H T g Ds) (.exit 4) [(0,some (.arr H.length g 0 n 5)),(1,some (N a)),(2,some (N m)),(3,some (N b)),(4,some fnc),(14,some (N r))] (aS H T g Ds)∧
   a≤r∧r≤m∧(r=a∨¬ky Ds m<ky Ds (r - 1))∧(r=m∨¬ ¬ky Ds m<ky Ds r):=by
 refine bs_gen (f:=fun h=>¬ky Ds m<ky Ds h) (lo:=a) (hi:=m) (LEp:=fun i j r=>LL a235 2 [(0,some (.arr H.length g 0 n 5)),(1,some (N a)),(2,some (N m)),(3,some (N b)),(4,some fnc),(14,some (N i)),(15,some (N j))] (aS H T g Ds) (.exit 4) [(0,some (.arr H.length g 0 n 5)),(1,some (N a)),(2,some (N m)),(3,some (N b)),(4,some fnc),(14,some (N r))] (aS H T g Ds)) ?_ ?_ ?_ _ a m (Nat.le_refl _) (Nat.le_refl _) h2 (Nat.le_refl _) (.inl rfl) (.inl rfl)
 ·exact fun i j h=>r150_l2_out1 (by omega)
 ·intro i j r x1 x2 x3 hf hL;have y1:(i+j) / 2<Ds.length:=by omega
  have y2:m<Ds.length:=by omega
  rw[ky_of (AxC y1),ky_of (AxC y2)] at hf;exact r150_l2_next2 (by omega) (by omega) (by omega) (by omega) (by omega) h1 (AxC y2) (by omega) (AxC y1) (e100 (AkK hb y2) (AkK hb y1)) (by omega) hL
 ·intro i j r x1 x2 x3 hf hL;have y1:(i+j) / 2<Ds.length:=by omega
  have y2:m<Ds.length:=by omega
  rw[ky_of (AxC y1),ky_of (AxC y2)] at hf;exact r150_l2_next1 (by omega) (by omega) (by omega) (by omega) (by omega) h1 (AxC y2) (by omega) (AxC y1) (e100 (AkK hb y2) (AkK hb y1)) (by omega) hL
theorem bs4(hn:n<1000000000){Ds:List Dg}(hb:Bd Ds)(hl:Ds.length=n){a m b lo hi p:Nat}(hp:p=(a+b) / 2+m - 1)(h2:lo≤hi)(h3:hi≤n)(h4:hi≤p+1)(h5:p - lo<n):
  ∃r,LL a235 4 [(0,some (.arr H.length g 0 n 5)),(1,some (N a)),(2,some (N m)),(3,some (N b)),(4,some fnc),(18,some (N ((a+b) / 2))),(19,some (N ((a+b) / 2+m))),(20,some (N lo)),(21,some (N hi)),(22,some (N p))] (aS H T g Ds) (.exit 8) [(0,some (.arr H.length g 0 n 5)),(1,some (N a)),(2,some (N m)),(3,some (N b)),(4,some fnc),(18,some (N ((a+b) / 2))),(19,some (N ((a+b) / 2+m))),(20,some (N r))] (aS H T g Ds)∧
   lo≤r∧r≤hi∧(r=lo∨¬ky Ds (p - (r - 1)) < ky Ds (r - 1))∧(r=hi∨¬ ¬ky Ds (p - r) < ky Ds r):=by
 subst hp;refine bs_gen (f:=fun h=>¬ky Ds ((a+b) / 2+m - 1 - h) < ky Ds h) (lo:=lo) (hi:=hi) (LEp:=fun i j r=>LL a235 4 [(0,some (.arr H.length g 0 n 5)),(1,some (N a)),(2,some (N m)),(3,some (N b)),(4,some fnc),(18,some (N ((a+b) / 2))),(19,some (N ((a+b) / 2+m))),(20,some (N i)),(21,some (N j)),(22,some (N ((a+b) / 2+m - 1)))] (aS H T g Ds) (.exit 8) [(0,some (.arr H.length g 0 n 5)),(1,some (N a)),(2,some (N m)),(3,some (N b)),(4,some fnc),(18,some (N ((a+b) / 2))),(19,some (N ((a+b) / 2+m))),(20,some (N r))] (aS H T g Ds)) ?_ ?_ ?_ _ lo hi (Nat.le_refl _) (Nat.le_refl _) h2 (Nat.le_refl _) (.inl rfl) (.inl rfl)
 ·exact fun i j h=>r150_l4_out1 (by omega)
 ·intro i j r x1 x2 x3 hf hL;have y1:(i+j) / 2<Ds.length:=by omega
  have y2:(a+b) / 2+m - 1 - (i+j) / 2<Ds.length:=by omega
  rw[ky_of (AxC y1),ky_of (AxC y2)] at hf;exact r150_l4_next2 (by omega) (by omega) (by omega) (by omega) (by omega) (by omega) (by omega) (by omega) (AxC y2) (by omega) (AxC y1) (e100 (AkK hb y2) (AkK hb y1)) (by omega) hL
 ·intro i j r x1 x2 x3 hf hL;have y1:(i+j) / 2<Ds.length:=by omega
  have y2:(a+b) / 2+m - 1 - (i+j) / 2<Ds.length:=by omega
  rw[ky_of (AxC y1),ky_of (AxC y2)] at hf;exact r150_l4_next1 (by omega) (by omega) (by omega) (by omega) (by omega) (by omega) (by omega) (by omega) (AxC y2) (by omega) (AxC y1) (e100 (AkK hb y2) (AkK hb y1)) (by omega) hL
end
end Go.Abs.Z

namespace Go.Abs.Z
open Go.Proofs Go.RowKit
section
variable{H T:Sto}{g n:Nat}
theorem l1_loop(hn:n<1000000000){a m b r:Nat}(x:Dg)(rest:List Dg):∀(B P:List Dg) {k:Nat},k=P.length→r=P.length+B.length+1→(P++x::(B++rest)).length=n→
  LL a235 1 [(0,some (.arr H.length g 0 n 5)),(1,some (N a)),(2,some (N m)),(3,some (N b)),(4,some fnc),(10,some (N r)),(13,some (N k))] (aS H T g (P++x::(B++rest))) (.exit 2) [(0,some (.arr H.length g 0 n 5)),(1,some (N a)),(2,some (N m)),(3,some (N b)),(4,some fnc),(10,some (N r))] (aS H T g (P++(B++x::rest)))
 |[],P,k,hk,hr,hl=>by
  have hl':=hl;simp only[List.length_append,List.length_cons,List.length_nil] at hl' hr;exact r150_l1_out1 (by omega) (by omega) (by omega)
 |y::B,P,k,hk,hr,hl=>by
  have hl':=hl;simp only[List.length_append,List.length_cons] at hl' hr
  have g1:(P++x::(y::B++rest))[k+1]?=some y:=by
   rw[show P++x::(y::B++rest)=(P++[x])++y::(B++rest) by simp];exact AQ5 (by simp;omega)
  have g2:(P++x::(y::B++rest))[k]?=some x:=AQ5 hk
  have s:((P++x::(y::B++rest)).set k y).set (k+1) x=(P++[y])++x::(B++rest):=by
   rw[AkQ hk,show P++y::(y::B++rest)=(P++[y])++y::(B++rest) by simp,AkQ (by simp;omega)]
  refine r150_l1_next1 (by omega) (by omega) (by omega) (by omega) (by omega) g1 (by omega) g2 (by omega) (by rw[List.length_set];omega) ?_
  rw[s];have:=l1_loop hn (a:=a) (m:=m) (b:=b) (r:=r) x rest B (P++[y]) (k:=k+1) (by simp;omega) (by simp;omega) (by simp;omega)
  simpa using this
theorem l3_loop(hn:n<1000000000){a m b r:Nat}(x:Dg):∀(z:Nat) (B P rest:List Dg) {k:Nat},B.length=z→r=P.length→k=P.length+B.length→(P++B++x::rest).length=n→
  LL a235 3 [(0,some (.arr H.length g 0 n 5)),(1,some (N a)),(2,some (N m)),(3,some (N b)),(4,some fnc),(14,some (N r)),(17,some (N k))] (aS H T g (P++B++x::rest)) (.exit 6) [(0,some (.arr H.length g 0 n 5)),(1,some (N a)),(2,some (N m)),(3,some (N b)),(4,some fnc),(14,some (N r))] (aS H T g (P++x::(B++rest)))
 |0,B,P,rest,k,hz,hr,hk,hl=>by
  have:=List.length_eq_zero_iff.1 hz;subst this;rw[List.append_nil,List.nil_append];exact r150_l3_out1 (by simp at hk;omega)
 |z+1,B,P,rest,k,hz,hr,hk,hl=>by
  obtain⟨B,y,rfl⟩:∃S y,B=S++[y]:=by
   rcases List.eq_nil_or_concat B with h | ⟨S,y,h⟩
   ·rw[h] at hz;cases hz
   ·exact⟨S,y,by simpa using h⟩
  have hl':=hl;simp only[List.length_append,List.length_cons,List.length_nil] at hl' hk hz
  have g1:(P++(B++[y])++x::rest)[k - 1]?=some y:=by
   rw[show P++(B++[y])++x::rest=(P++B)++y::(x::rest) by simp];exact AQ5 (by simp;omega)
  have g2:(P++(B++[y])++x::rest)[k]?=some x:=AQ5 (by simp;omega)
  have s:((P++(B++[y])++x::rest).set k y).set (k - 1) x=P++B++x::(y::rest):=by
   rw[AkQ (by simp;omega),show P++(B++[y])++y::rest=(P++B)++y::(y::rest) by simp,AkQ (by simp;omega)]
  refine r150_l3_next1 (by omega) (by omega) (by omega) (by omega) g1 (by omega) g2 (by omega) (by rw[List.length_set];omega) ?_
  rw[s];have:=l3_loop hn (a:=a) (m:=m) (b:=b) (r:=r) x z B P (y::rest) (k:=k - 1) (by omega) hr (by omega) (by simp;omega)
  simpa using this
theorem r150_main(hn:n<1000000000){a m b r lo hi:Nat}{Ds Ds1 Ds2 Ds3:List Dg}(ha:a<m)(hb:m<b)(hbn:b≤n)(c1:m - a≠1)(c2:b - m≠1)
  (elo:lo=if(a+b) / 2<m then(a+b) / 2+m - b else a) (ehi:hi=if(a+b) / 2<m then(a+b) / 2 else m)
  (L1:LL a235 4 [(0,some (.arr H.length g 0 n 5)),(1,some (N a)),(2,some (N m)),(3,some (N b)),(4,some fnc),(18,some (N ((a+b) / 2))),(19,some (N ((a+b) / 2+m))),(20,some (N lo)),(21,some (N hi)),(22,some (N ((a+b) / 2+m - 1)))] (aS H T g Ds) (.exit 8) [(0,some (.arr H.length g 0 n 5)),(1,some (N a)),(2,some (N m)),(3,some (N b)),(4,some fnc),(18,some (N ((a+b) / 2))),(19,some (N ((a+b) / 2+m))),(20,some (N r))] (aS H T g Ds))
  (hr1:lo≤r) (hr2:r≤hi)
  (h1:r<m∧r<(a+b) / 2→E 263 [.arr H.length g 0 n 5,N r,N m,N ((a+b) / 2+m - r),fnc] (aS H T g Ds) (.tuple []) (aS H T g Ds1)) (h1':¬(r<m∧r<(a+b) / 2)→Ds1=Ds)
  (h2:a<r∧r<(a+b) / 2→E 235 [.arr H.length g 0 n 5,N a,N r,N ((a+b) / 2),fnc] (aS H T g Ds1) (.tuple []) (aS H T g Ds2)) (h2':¬(a<r∧r<(a+b) / 2)→Ds2=Ds1)
  (h3:r<m∧(a+b) / 2+m - r<b→E 235 [.arr H.length g 0 n 5,N ((a+b) / 2),N ((a+b) / 2+m - r),N b,fnc] (aS H T g Ds2) (.tuple []) (aS H T g Ds3)) (h3':¬(r<m∧(a+b) / 2+m - r<b)→Ds3=Ds2) :
  E 235 [.arr H.length g 0 n 5,N a,N m,N b,fnc] (aS H T g Ds) (.tuple []) (aS H T g Ds3):=by
 by_cases d0:(a+b) / 2<m
 ·rw[if_pos d0] at elo ehi;subst elo ehi;by_cases d1:r<(a+b) / 2
  ·have k1:=h1 ⟨by omega,d1⟩
   by_cases d2:a<r
   ·have k2:=h2 ⟨d2,d1⟩;by_cases d3:(a+b) / 2+m - r<b
    ·have k3:=h3 ⟨by omega,d3⟩
     exact r150_6 (by omega) (by omega) (by omega) (by omega) (by omega) (by omega) (by omega) (by omega) (by omega) (by omega) (by omega) (by omega) (by omega) L1 (by omega) (by omega) (by omega) k1 (by omega) (by omega) k2 (by omega) (by omega) k3
    ·have k3:=h3' (fun h=>d3 h.2);subst k3
     exact r150_7 (by omega) (by omega) (by omega) (by omega) (by omega) (by omega) (by omega) (by omega) (by omega) (by omega) (by omega) (by omega) (by omega) L1 (by omega) (by omega) (by omega) k1 (by omega) (by omega) k2 (by omega) (by omega)
   ·have k2:=h2' (fun h=>d2 h.1);subst k2
    by_cases d3:(a+b) / 2+m - r<b
    ·have k3:=h3 ⟨by omega,d3⟩
     exact r150_8 (by omega) (by omega) (by omega) (by omega) (by omega) (by omega) (by omega) (by omega) (by omega) (by omega) (by omega) (by omega) (by omega) L1 (by omega) (by omega) (by omega) k1 (by omega) (by omega) (by omega) k3
    ·have k3:=h3' (fun h=>d3 h.2);subst k3
     exact r150_9 (by omega) (by omega) (by omega) (by omega) (by omega) (by omega) (by omega) (by omega) (by omega) (by omega) (by omega) (by omega) (by omega) L1 (by omega) (by omega) (by omega) k1 (by omega) (by omega) (by omega)
  ·have k1:=h1' (fun h=>d1 h.2);subst k1
   have k2:=h2' (fun h=>d1 h.2);subst k2
   have k3:=h3 ⟨by omega,by omega⟩
   exact r150_3 (by omega) (by omega) (by omega) (by omega) (by omega) (by omega) (by omega) (by omega) (by omega) (by omega) (by omega) (by omega) (by omega) L1 (by omega) (by omega) (by omega) (by omega) (by omega) (by omega) (by omega) k3
 ·rw[if_neg d0] at elo ehi;rw[elo,ehi] at L1;rw[elo] at hr1;rw[ehi] at hr2;clear elo ehi;by_cases d1:r<m
  ·have k1:=h1 ⟨by omega,by omega⟩
   by_cases d2:a<r
   ·have k2:=h2 ⟨d2,by omega⟩
    by_cases d3:(a+b) / 2+m - r<b
    ·have k3:=h3 ⟨by omega,d3⟩
     exact r150_10 (by omega) (by omega) (by omega) (by omega) (by omega) (by omega) (by omega) (by omega) (by omega) (by omega) (by omega) (by omega) L1 (by omega) (by omega) (by omega) k1 (by omega) (by omega) k2 (by omega) (by omega) k3
    ·have k3:=h3' (fun h=>d3 h.2);subst k3
     exact r150_11 (by omega) (by omega) (by omega) (by omega) (by omega) (by omega) (by omega) (by omega) (by omega) (by omega) (by omega) (by omega) L1 (by omega) (by omega) (by omega) k1 (by omega) (by omega) k2 (by omega) (by omega)
   ·have k2:=h2' (fun h=>d2 h.1);subst k2
    by_cases d3:(a+b) / 2+m - r<b
    ·have k3:=h3 ⟨by omega,d3⟩
     exact r150_12 (by omega) (by omega) (by omega) (by omega) (by omega) (by omega) (by omega) (by omega) (by omega) (by omega) (by omega) (by omega) L1 (by omega) (by omega) (by omega) k1 (by omega) (by omega) (by omega) k3
    ·have k3:=h3' (fun h=>d3 h.2);subst k3
     exact r150_13 (by omega) (by omega) (by omega) (by omega) (by omega) (by omega) (by omega) (by omega) (by omega) (by omega) (by omega) (by omega) L1 (by omega) (by omega) (by omega) k1 (by omega) (by omega) (by omega)
  ·have k1:=h1' (fun h=>d1 h.1);subst k1
   have k3:=h3' (fun h=>d1 h.1);subst k3
   by_cases d2:r<(a+b) / 2
   ·have k2:=h2 ⟨by omega,d2⟩
    exact r150_4 (by omega) (by omega) (by omega) (by omega) (by omega) (by omega) (by omega) (by omega) (by omega) (by omega) (by omega) (by omega) L1 (by omega) (by omega) (by omega) (by omega) k2 (by omega)
   ·have k2:=h2' (fun h=>d2 h.2);subst k2
    exact r150_5 (by omega) (by omega) (by omega) (by omega) (by omega) (by omega) (by omega) (by omega) (by omega) (by omega) (by omega) (by omega) L1 (by omega) (by omega) (by omega) (by omega) (by omega)
theorem le_last{l:List Dg}{u:Dg}{v:Nat}(h:Asc (l++[u]))(hu:u.a≤v):∀x∈l++[u],x.a≤v:=fun x hx=>by
 rcases List.mem_append.1 hx with hx | hx
 ·exact Nat.le_trans ((AkH.1 h).2.2 x hx u (by simp)) hu
 ·rw[List.mem_singleton] at hx;subst hx;exact hu
theorem ge_first{l:List Dg}{u:Dg}{v:Nat}(h:Asc (u::l))(hu:v≤u.a):∀x∈u::l,v≤x.a:=fun x hx=>by
 rcases List.mem_cons.1 hx with rfl | hx
 ·exact hu
 ·exact Nat.le_trans hu ((List.pairwise_cons.1 h).1 x hx)
theorem ky_at{P Q:List Dg}{x:Dg}{i:Nat}(hi:i=P.length):ky (P++x::Q) i=x.a:=ky_of (AQ5 hi)
theorem snoc_of{l:List Dg}(h:0<l.length):∃S y,l=S++[y]:=by
 rcases List.eq_nil_or_concat l with e | ⟨S,y,e⟩
 ·rw[e] at h;cases h
 ·exact⟨S,y,by simpa using e⟩
theorem cross_le{P A1 M B2 Q:List Dg}(h1:Asc A1)(h2:Asc B2){i j:Nat}(hi:i+1=P.length+A1.length)(hj:j=P.length+A1.length+M.length)
  (h:A1=[]∨B2=[]∨ky (P++A1++M++B2++Q) i≤ky (P++A1++M++B2++Q) j):∀x∈A1,∀y∈B2,x.a≤y.a:=by
 rcases h with rfl | rfl | h
 ·intro x hx;cases hx
 ·intro x _ y hy;cases hy
 ·cases hB:B2 with
  |nil=>intro x _ y hy;cases hy
  |cons v B2'=>
   rcases Nat.eq_zero_or_pos A1.length with h0 | h0
   ·rw[List.length_eq_zero_iff.1 h0];intro x hx;cases hx
   ·obtain⟨S,u,e⟩:=snoc_of h0;subst e hB;simp only[List.length_append,List.length_cons,List.length_nil] at hi hj
    rw[show P++(S++[u])++M++(v::B2')++Q=(P++S)++u::(M++v::(B2'++Q)) by simp,ky_at (by simp;omega),
     show(P++S)++u::(M++v::(B2'++Q))=(P++S++u::M)++v::(B2'++Q) by simp,ky_at (by simp;omega)] at h
    exact fun x hx y hy=>Nat.le_trans (le_last h1 h x hx) (ge_first h2 (Nat.le_refl _) y hy)
theorem cross_gt{P A2 M B1 Q:List Dg}(h1:Asc A2)(h2:Asc B1){i j:Nat}(hi:i=P.length)(hj:j+1=P.length+A2.length+M.length+B1.length)
  (h:A2=[]∨B1=[]∨ky (P++A2++M++B1++Q) j<ky (P++A2++M++B1++Q) i):∀x∈A2,∀y∈B1,y.a<x.a:=by
 rcases h with rfl | rfl | h
 ·intro x hx;cases hx
 ·intro x _ y hy;cases hy
 ·cases hA:A2 with
  |nil=>intro x hx;cases hx
  |cons v A2'=>
   rcases Nat.eq_zero_or_pos B1.length with h0 | h0
   ·rw[List.length_eq_zero_iff.1 h0];intro x _ y hy;cases hy
   ·obtain⟨S,u,e⟩:=snoc_of h0;subst e hA;simp only[List.length_append,List.length_cons,List.length_nil] at hi hj
    rw[show P++(v::A2')++M++(S++[u])++Q=P++v::(A2'++M++S++u::Q) by simp,ky_at hi,
     show P++v::(A2'++M++S++u::Q)=(P++v::A2'++M++S)++u::Q by simp,ky_at (by simp;omega)] at h
    exact fun x hx y hy=>Nat.lt_of_le_of_lt (le_last h2 (Nat.le_refl _) y hy) (ge_first (v:=u.a+1) h1 h x hx)
end
end Go.Abs.Z
