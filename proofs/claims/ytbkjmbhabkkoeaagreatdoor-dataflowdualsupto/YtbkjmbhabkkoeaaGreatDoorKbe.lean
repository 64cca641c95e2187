/- A part of the proof: WE KF G8 WF KG G7 WG KH WH KI WI KJ. -/
import Derived.Test.YtbkjmbhabkkoeaaGreatDoorKbd

set_option linter.unusedVariables false
set_option linter.unusedSimpArgs false
namespace Go.Abs.Z
open PV
open Go.Proofs Go.RowKit
set_option linter.unusedVariables false
set_option linter.unusedSimpArgs false
variable{τ:Sto}{f v:PV}{i j:Nat}{x:Int}
theorem Aw2(a b:Int):AJ (.bin .geq 0) [I a,I b]=some [some (.bool (decide (a≥b)))]:=rfl
theorem aj(p:Pt){τ:Sto}:BR (.ld 3 true) [.vptr p.pv] τ=some [some p.pv]:=by
 obtain⟨k,n,v,nx,h⟩:=p;rcases h with rfl | ⟨rfl,_⟩<;>rfl
theorem Yh(p:Pt){τ:Sto}:EM pur run (.w (.stO 3)) [.hole 3,p.pv] τ [some (.ref τ.length 0)] (τ++[[I p.k,I p.n,p.v]]):=by
 obtain⟨k,n,v,nx,h⟩:=p;rcases h with rfl | ⟨rfl,_⟩<;>exact⟨0,fun _ _=>rfl⟩
theorem ak(p:Pt){σ:Sto}{id:Nat}(h:σ[id]?=some [I p.k,I p.n,p.v]):BR (.ld 1 false) [.ref id 2] σ=some [some p.v]:=by
 simp only[BR];rw[h];obtain⟨k,n,v,nx,hh⟩:=p;rcases hh with rfl | ⟨rfl,_⟩<;>rfl
theorem R73:Rn 73 a73:=fun _ _ _=>by kernel_rfl
theorem AzN:Rn 110 VM:=fun _ _ _=>by kernel_rfl
theorem R72:Rn 72 a72:=fun _ _ _=>by kernel_rfl
theorem R47:Rn 47 a47:=fun _ _ _=>by kernel_rfl
theorem Aj5{ps:List Pt}(hf:Cw f ps)(hi:τ[i]?=some [f])(h:x<1):E 73 [I x,.ref i 0] τ (.bool true) τ:=by
 exact rule R73 [sp 2 (Cm .i64 h)]
theorem Aj4{ps:List Pt}(hf:Cw f ps)(hi:τ[i]?=some [f])(h:¬x<1):E 73 [I x,.ref i 0] τ (.bool (decide (x≥(ps.length:Int)))) τ:=by
 exact rule R73 [sp 2 (CY .i64 h),sg 3 (QS τ (Dj hf hi)),sq 0 (DF hf),sq 0 (Aw2 x (ps.length:Int))]
theorem xm{l:List Int}(hv:Ls v l){j:Nat}(L:LpE VM 0 [(0,v),(1,func 73 [] [.ref i 0]),(7,N l.length),(8,N 0)] τ .ret [(4,N j)] τ):E 110 [v,.func 73 [] [.ref i 0]] τ (N j) τ:=by
 exact rule AzN [sp 1 (Gv hv),sp 0 (E8 hv),sl 1 [0,1,7,8] L]
theorem xk{l:List Int}(hv:Ls v l)(L:LpE VM 0 [(0,v),(1,func 73 [] [.ref i 0]),(7,N l.length),(8,N 0)] τ (.exit 0) [] τ):E 110 [v,.func 73 [] [.ref i 0]] τ (I (-1)) τ:=by
 exact rule AzN [sp 1 (Gv hv),sp 0 (E8 hv),sl 1 [0,1,7,8] L]
theorem rq{l:List Int}(hv:Ls v l){j:Nat}{x:Int}(hj:j<l.length)(hs:l.length<4000000000)(hx:l[j]?=some x)(h:E 73 [I x,.ref i 0] τ (.bool false) τ){e:Bt}{ff1:FF}{σ1:Sto}(hnx:LpE VM 0 [(0,v),(1,func 73 [] [.ref i 0]),(7,N l.length),(8,N (j+1))] τ e ff1 σ1):LpE VM 0 [(0,v),(1,func 73 [] [.ref i 0]),(7,N l.length),(8,N j)] τ e ff1 σ1:=by
 exact ER [0,1,7,8] [sp 0 (Cm .i64 (show(j:Int) < (l.length:Int) by omega)),sp 4 (Gv hv),sp 1 (by rw[hv.CQ hx];exact Dh (o:=false) hx:AJ (.idx 1) [v,N j]=some [some (.vptr (I x))]),st 1 (WV (fs:=[]) (cs:=[.ref i 0]) (vs:=[I x]) h (by kernel_rfl) rfl rfl rfl),sp 1 (Di j 1 (by omega))] hnx
theorem xh{l:List Int}(hv:Ls v l){j:Nat}{x:Int}(hj:j<l.length)(hs:l.length<4000000000)(hx:l[j]?=some x)(h:E 73 [I x,.ref i 0] τ (.bool true) τ):LpE VM 0 [(0,v),(1,func 73 [] [.ref i 0]),(7,N l.length),(8,N j)] τ .ret [(4,N j)] τ:=by
 exact DR [4] [sp 0 (Cm .i64 (show(j:Int) < (l.length:Int) by omega)),sp 4 (Gv hv),sp 1 (by rw[hv.CQ hx];exact Dh (o:=false) hx:AJ (.idx 1) [v,N j]=some [some (.vptr (I x))]),st 1 (WV (fs:=[]) (cs:=[.ref i 0]) (vs:=[I x]) h (by kernel_rfl) rfl rfl rfl)]
theorem xg{l:List Int}(hv:Ls v l){j:Nat}(hj:¬j<l.length):LpE VM 0 [(0,v),(1,func 73 [] [.ref i 0]),(7,N l.length),(8,N j)] τ (.exit 0) [] τ:=by
 exact DR [] [sp 0 (CY .i64 (show ¬(j:Int) < (l.length:Int) by omega))]
theorem Aj6{l:List Int}(hv:Ls v l){j:Nat}(h:E 110 [v,.func 73 [] [.ref i 0]] τ (N j) τ):E 72 [v,.func 73 [] [.ref i 0]] τ (.bool true) τ:=by
 exact rule R72 [sp 1 (Gv hv),st 1 (oW h (by kernel_rfl) ⟨by simp only[AR,Bh,hv.dis];rfl,by simp only[Bi,Cg,hv.free];rfl,rfl⟩),sp 0 (SV .i64 (show(j:Int)≥0 by omega))]
theorem Aj7{l:List Int}(hv:Ls v l)(h:E 110 [v,.func 73 [] [.ref i 0]] τ (I (-1)) τ):E 72 [v,.func 73 [] [.ref i 0]] τ (.bool false) τ:=by
 exact rule R72 [sp 1 (Gv hv),st 1 (oW h (by kernel_rfl) ⟨by simp only[AR,Bh,hv.dis];rfl,by simp only[Bi,Cg,hv.free];rfl,rfl⟩),sp 0 (KP (x:=-1) (y:=0) .i64 (by decide))]
theorem AjI{ps:List Pt}(hf:Cw f ps)(h:ps.length<2):E 47 [.agg [f]] τ (.bool false) (τ++[[f]]):=by
 exact rule R47 [st 0 (FN (τ:=τ) hf),st 2 (QS (τ++[[f]]) (Dj hf Bp)),sp 0 (DF hf),sp 0 (Cm .i64 (show(ps.length:Int) < 2 by omega))]
theorem AjH{ps:List Pt}(hf:Cw f ps)(h:¬ps.length<2)(h2:ps.length>1024):E 47 [.agg [f]] τ (.bool false) (τ++[[f]]):=by
 exact rule R47 [st 0 (FN (τ:=τ) hf),st 2 (QS (τ++[[f]]) (Dj hf Bp)),sp 0 (DF hf),sp 0 (CY .i64 (show ¬(ps.length:Int) < 2 by omega)),sg 2 (QS (τ++[[f]]) (Dj hf Bp)),sq 0 (DF hf),sq 0 (KO .i64 (show(ps.length:Int) > 1024 by omega))]
theorem AjG{ps:List Pt}{p:Pt}(hf:Cw f ps)(h:¬ps.length<2)(h2:¬ps.length>1024)(hp:ps[1]?=some p)(h3:p.nx.length>0):E 47 [.agg [f]] τ (.bool false) (τ++[[f]]):=by
 exact rule R47 [st 0 (FN (τ:=τ) hf),st 2 (QS (τ++[[f]]) (Dj hf Bp)),sp 0 (DF hf),sp 0 (CY .i64 (show ¬(ps.length:Int) < 2 by omega)),sg 2 (QS (τ++[[f]]) (Dj hf Bp)),sq 0 (DF hf),sq 0 (Ia .i64 (show ¬(ps.length:Int) > 1024 by omega)),sg 3 (QS (τ++[[f]]) (Dj hf Bp)),sq 0 (by rw[hf.CQ hp];exact DW hp:AJ (.idx 3) [f,N 1]=some [some (.vptr p.pv)]),sq 0 (Gc p),sg 0 (QS (τ++[[f]]) (Eg p.ok)),sq 0 (E8 p.ok),sq 0 (KO .i64 (show(p.nx.length:Int) > 0 by omega))]
theorem AjK{ps:List Pt}{p:Pt}(hf:Cw f ps){τ2:Sto}(h:¬ps.length<2)(h2:¬ps.length>1024)(hp:ps[1]?=some p)(h3:¬p.nx.length>0)(L:LpE a47 0 [(1,ref τ.length 0),(25,f),(26,N ps.length),(27,N 0)] (τ++[[f]]) .ret [(2,bool false)] τ2):E 47 [.agg [f]] τ (.bool false) τ2:=by
 exact rule R47 [st 0 (FN (τ:=τ) hf),st 2 (QS (τ++[[f]]) (Dj hf Bp)),sp 0 (DF hf),sp 0 (CY .i64 (show ¬(ps.length:Int) < 2 by omega)),sg 2 (QS (τ++[[f]]) (Dj hf Bp)),sq 0 (DF hf),sq 0 (Ia .i64 (show ¬(ps.length:Int) > 1024 by omega)),sg 3 (QS (τ++[[f]]) (Dj hf Bp)),sq 0 (by rw[hf.CQ hp];exact DW hp:AJ (.idx 3) [f,N 1]=some [some (.vptr p.pv)]),sq 0 (Gc p),sg 0 (QS (τ++[[f]]) (Eg p.ok)),sq 0 (E8 p.ok),sq 0 (Ia .i64 (show ¬(p.nx.length:Int) > 0 by omega)),st 3 (QS (τ++[[f]]) (Dj hf Bp)),sp 0 (DF hf),sl 1 [1,25,26,27] L]
theorem AjJ{ps:List Pt}{p:Pt}(hf:Cw f ps){τ2:Sto}(h:¬ps.length<2)(h2:¬ps.length>1024)(hp:ps[1]?=some p)(h3:¬p.nx.length>0)(L:LpE a47 0 [(1,ref τ.length 0),(25,f),(26,N ps.length),(27,N 0)] (τ++[[f]]) (.exit 0) [] τ2):E 47 [.agg [f]] τ (.bool true) τ2:=by
 exact rule R47 [st 0 (FN (τ:=τ) hf),st 2 (QS (τ++[[f]]) (Dj hf Bp)),sp 0 (DF hf),sp 0 (CY .i64 (show ¬(ps.length:Int) < 2 by omega)),sg 2 (QS (τ++[[f]]) (Dj hf Bp)),sq 0 (DF hf),sq 0 (Ia .i64 (show ¬(ps.length:Int) > 1024 by omega)),sg 3 (QS (τ++[[f]]) (Dj hf Bp)),sq 0 (by rw[hf.CQ hp];exact DW hp:AJ (.idx 3) [f,N 1]=some [some (.vptr p.pv)]),sq 0 (Gc p),sg 0 (QS (τ++[[f]]) (Eg p.ok)),sq 0 (E8 p.ok),sq 0 (Ia .i64 (show ¬(p.nx.length:Int) > 0 by omega)),st 3 (QS (τ++[[f]]) (Dj hf Bp)),sp 0 (DF hf),sl 1 [1,25,26,27] L]
theorem wQ{ps:List Pt}{p:Pt}(hf:Cw f ps)(hj:j<ps.length)(hs:ps.length≤1024)(hp:ps[j]?=some p)(h:E 72 [p.v,.func 73 [] [.ref i 0]] (τ++[[I p.k,I p.n,p.v]]) (.bool false) (τ++[[I p.k,I p.n,p.v]])){e:Bt}{ff1:FF}{σ1:Sto}(hnx:LpE a47 0 [(1,ref i 0),(25,f),(26,N ps.length),(27,N (j+1))] (τ++[[I p.k,I p.n,p.v]]) e ff1 σ1):LpE a47 0 [(1,ref i 0),(25,f),(26,N ps.length),(27,N j)] τ e ff1 σ1:=by
 exact ER [1,25,26,27] [sp 0 (Cm .i64 (show(j:Int) < (ps.length:Int) by omega)),sp 1 (by rw[hf.CQ hp];exact DW hp:AJ (.idx 3) [f,N j]=some [some (.vptr p.pv)]),st 0 (QS τ (aj p)),st 1 (Yh p (τ:=τ)),st 1 (QS (τ++[[I p.k,I p.n,p.v]]) (ak p Bp)),st 1 (oW h (by kernel_rfl) ⟨by simp only[AR,Bh,p.ok.dis];rfl,by simp only[Bi,Cg,p.ok.free];rfl,rfl⟩),sp 1 (Di j 1 (by omega))] hnx
theorem AjF{ps:List Pt}{p:Pt}(hf:Cw f ps)(hj:j<ps.length)(hs:ps.length≤1024)(hp:ps[j]?=some p)(h:E 72 [p.v,.func 73 [] [.ref i 0]] (τ++[[I p.k,I p.n,p.v]]) (.bool true) (τ++[[I p.k,I p.n,p.v]])):LpE a47 0 [(1,ref i 0),(25,f),(26,N ps.length),(27,N j)] τ .ret [(2,bool false)] (τ++[[I p.k,I p.n,p.v]]):=by
 exact DR [2] [sp 0 (Cm .i64 (show(j:Int) < (ps.length:Int) by omega)),sp 1 (by rw[hf.CQ hp];exact DW hp:AJ (.idx 3) [f,N j]=some [some (.vptr p.pv)]),st 0 (QS τ (aj p)),st 1 (Yh p (τ:=τ)),st 1 (QS (τ++[[I p.k,I p.n,p.v]]) (ak p Bp)),st 1 (oW h (by kernel_rfl) ⟨by simp only[AR,Bh,p.ok.dis];rfl,by simp only[Bi,Cg,p.ok.free];rfl,rfl⟩)]
theorem AjE{ps:List Pt}(hf:Cw f ps)(hj:¬j<ps.length):LpE a47 0 [(1,ref i 0),(25,f),(26,N ps.length),(27,N j)] τ (.exit 0) [] τ:=by
 exact DR [] [sp 0 (CY .i64 (show ¬(j:Int) < (ps.length:Int) by omega))]
end Go.Abs.Z

namespace Go.Abs.Z
open Go.Proofs Go.RowKit
set_option linter.unusedVariables false
open Classical
def Old(τ τ':Sto):Prop:=τ.length≤τ'.length∧∀id,id<τ.length→τ'[id]?=τ[id]?
theorem Old.rfl'{τ:Sto}:Old τ τ:=⟨Be _,fun _ _=>rfl⟩
theorem Old.push{τ:Sto}{o:List PV}:Old τ (τ++[o]):=⟨by simp,fun id h=>Ae h⟩
theorem Old.trans{a b c:Sto}(h:Old a b)(k:Old b c):Old a c:=⟨BM h.1 k.1,fun id hi=>(k.2 id (Bn hi h.1)).trans (h.2 id hi)⟩
theorem Old.get{a b:Sto}(h:Old a b){i:Nat}{o:List PV}(hi:a[i]?=some o):b[i]?=some o:=(h.2 i (Ab.1 hi).1).trans hi
section
variable{τ:Sto}{f:PV}{ps:List Pt}
theorem e73{i:Nat}(hf:Cw f ps)(hi:τ[i]?=some [f])(x:Int):E 73 [I x,.ref i 0] τ (.bool (decide (¬(1≤x∧x<(ps.length:Int))))) τ:=by
 by_cases h:x<1
 ·rw[decide_eq_true (by omega)];exact Aj5 hf hi h
 ·have:=Aj4 hf hi h
  rwa [show decide (x≥(ps.length:Int))=decide (¬(1≤x∧x<(ps.length:Int))) from by
   by_cases h2:x≥(ps.length:Int)
   ·rw[decide_eq_true h2,decide_eq_true (by omega)]
   ·rw[decide_eq_false h2,decide_eq_false (by omega)]] at this
abbrev to1(ps:List Pt)(l:List Int):Prop:=∀x∈l,1≤x∧x<(ps.length:Int)
theorem Z7{i:Nat}(hf:Cw f ps)(hi:τ[i]?=some [f]){v:PV}{l:List Int}(hv:Ls v l)(hs:l.length<4000000000):∀(m j:Nat),m=l.length - j→j≤l.length→(∀k x,k<j→l[k]?=some x→1≤x∧x<(ps.length:Int))→
  (to1 ps l∧LpE VM 0 [(0,some v),(1,some (.func 73 [] [.ref i 0])),(7,some (N l.length)),(8,some (N j))] τ (.exit 0) [] τ) ∨
  (¬to1 ps l∧∃j':Nat,LpE VM 0 [(0,some v),(1,some (.func 73 [] [.ref i 0])),(7,some (N l.length)),(8,some (N j))] τ .ret [(4,some (N j'))] τ)
 |0,j,hm,hj,hb=>by
  refine .inl ⟨fun x hx=>?_,xg hv (by omega)⟩
  obtain⟨k,he⟩:=Bb.1 hx;exact hb k x (by have:=(Ab.1 he).1;omega) he
 |m+1,j,hm,hj,hb=>by
  have hjl:j<l.length:=by omega
  have hx:=Ad hjl;have h73:=e73 hf hi l[j];by_cases h:1≤l[j]∧l[j] < (ps.length:Int)
  ·rw[decide_eq_false (by omega)] at h73
   rcases Z7 hf hi hv hs m (j+1) (by omega) (by omega) (fun k x hk hx'=>by
    by_cases hkj:k=j
    ·subst hkj;rw[hx] at hx';cases hx';exact h
    ·exact hb k x (by omega) hx') with⟨h3,h4⟩ | ⟨h3,j',h4⟩
   ·exact .inl ⟨h3,rq hv hjl hs hx h73 h4⟩
   ·exact .inr ⟨h3,j',rq hv hjl hs hx h73 h4⟩
  ·rw[decide_eq_true h] at h73;exact .inr ⟨fun h2=>h (h2 _ (AQ hjl)),j,xh hv hjl hs hx h73⟩
theorem e72{i:Nat}(hf:Cw f ps)(hi:τ[i]?=some [f]){v:PV}{l:List Int}(hv:Ls v l)(hs:l.length<4000000000):E 72 [v,.func 73 [] [.ref i 0]] τ (.bool (decide (¬to1 ps l))) τ:=by
 rcases Z7 hf hi hv hs l.length 0 (by omega) (by omega) (fun k x hk=>by omega) with⟨h1,h2⟩ | ⟨h1,j,h2⟩
 ·rw[decide_eq_false (fun h=>h h1)];exact Aj7 hv (xk hv h2)
 ·rw[decide_eq_true h1];exact Aj6 hv (xm hv h2)
theorem jY{i:Nat}(hf:Cw f ps)(hs:ps.length≤1024)(hn:∀p∈ps,p.nx.length<4000000000):∀(m j:Nat) (τ:Sto),τ[i]?=some [f]→m=ps.length - j→j≤ps.length→(∀k p,k<j→ps[k]?=some p→to1 ps p.nx)→
  ∃τ',Old τ τ'∧(((∀p∈ps,to1 ps p.nx)∧LpE a47 0 [(1,some (.ref i 0)),(25,some f),(26,some (N ps.length)),(27,some (N j))] τ (.exit 0) [] τ') ∨
  (¬(∀p∈ps,to1 ps p.nx)∧LpE a47 0 [(1,some (.ref i 0)),(25,some f),(26,some (N ps.length)),(27,some (N j))] τ .ret [(2,some (.bool false))] τ'))
 |0,j,τ,hi,hm,hj,hb=>by
  refine⟨τ,Old.rfl',.inl ⟨fun p hp=>?_,AjE hf (by omega)⟩⟩
  obtain⟨k,he⟩:=Bb.1 hp;exact hb k p (by have:=(Ab.1 he).1;omega) he
 |m+1,j,τ,hi,hm,hj,hb=>by
  have hjl:j<ps.length:=by omega
  have hx:=Ad hjl;have hi':(τ++[[I ps[j].k,I ps[j].n,ps[j].v]])[i]?=some [f]:=Old.push.get hi;have h72:=e72 hf hi' ps[j].ok (hn _ (AQ hjl));by_cases h:to1 ps ps[j].nx
  ·rw[decide_eq_false (fun h2=>h2 h)] at h72
   obtain⟨τ',ho,h3⟩:=jY hf hs hn m (j+1) _ hi' (by omega) (by omega) (fun k p hk hp=>by
    by_cases hkj:k=j
    ·subst hkj;rw[hx] at hp;cases hp;exact h
    ·exact hb k p (by omega) hp)
   refine⟨τ',Old.push.trans ho,?_⟩
   rcases h3 with⟨h3,h4⟩ | ⟨h3,h4⟩
   ·exact .inl ⟨h3,wQ hf hjl hs hx h72 h4⟩
   ·exact .inr ⟨h3,wQ hf hjl hs hx h72 h4⟩
  ·rw[decide_eq_true h] at h72;exact⟨_,Old.push,.inr ⟨fun h2=>h (h2 _ (AQ hjl)),AjF hf hjl hs hx h72⟩⟩
theorem e47(hf:Cw f ps)(hn:∀p∈ps,p.nx.length<4000000000):∃τ',Old τ τ'∧E 47 [.agg [f]] τ (.bool (decide (Fj ps))) τ':=by
 by_cases h1:ps.length<2
 ·rw[decide_eq_false fun h:Fj ps=>by have:=h.two;omega];exact⟨_,Old.push,AjI hf h1⟩
 by_cases h2:ps.length>1024
 ·rw[decide_eq_false fun h:Fj ps=>by have:=h.most;omega];exact⟨_,Old.push,AjH hf h1 h2⟩
 have hp:ps[1]?=some (ps[1]'(by omega)):=Ad (by omega)
 by_cases h3:(ps[1]'(by omega)).nx.length>0
 ·rw[decide_eq_false fun h:Fj ps=>by have:=h.one _ hp;rw[this] at h3;simp at h3];exact⟨_,Old.push,AjG hf h1 h2 hp h3⟩
 obtain⟨τ',ho,h4⟩:=jY (i:=τ.length) hf (by omega) hn ps.length 0 (τ++[[f]]) Bp (by omega) (by omega) (fun j p hj=>by omega)
 refine⟨τ',Old.push.trans ho,?_⟩
 rcases h4 with⟨h4,h5⟩ | ⟨h4,h5⟩
 ·rw[decide_eq_true (⟨by omega,by omega,fun p hp'=>by rw[hp] at hp';cases hp';exact Bq.1 (by omega),h4⟩:Fj ps)]
  exact AjJ hf h1 h2 hp h3 h5
 ·rw[decide_eq_false fun h:Fj ps=>h4 h.to]
  exact AjK hf h1 h2 hp h3 h5
end
end Go.Abs.Z

namespace Go.Abs.Z
open Go.Proofs Go.RowKit
set_option linter.unusedVariables false
abbrev wc(X:BitVec 64):PV:=.int .u64 (X.toNat:Int)
def wv(w:W):PV:=.agg (w.map wc)
section
variable{τ:Sto}{A n i k:Nat}{es:List PV}{w u x:W}{X:BitVec 64}
theorem JQ:(wv w).cells=w.map wc:=rfl
theorem UB:(wv w).cells.length=w.length:=by rw[JQ,Am]
theorem Fy:(wv w).Ag=wv w:=by
 show PV.agg ((w.map wc).map PV.D8)=_;rw[List.map_map];rfl
theorem Js:(w.map wc).all PV.flat=true:=by rw[ET];exact Ao.2 fun _ _=>rfl
theorem sF:(w.map wc).all PV.one=true:=by rw[ET];exact Ao.2 fun _ _=>rfl
theorem eD:(wv w).cells.all PV.flat=true:=Js
theorem eB(h:k<w.length):(w.map wc)[k]?=some (wc (w.getD k 0#64)):=by
 rw[Af,Ad h,Aj,Ad h];rfl
theorem ed(h:k<w.length):upd (wv w) (k * 1) (wc X)=some (wv (w.set k X)):=by
 show(if _ then _ else _)=_
 have hl:(w.map wc).length=w.length:=Am ..;rw[if_pos (by rw[hl];show k * 1+1≤_;omega)]
 congr 2;rw[List.map_set,List.set_eq_take_append_cons_drop,if_pos (by rw[hl];exact h),Dv]
 show(w.map wc).take k++[wc X]++(w.map wc).drop (k+1)=_;rw[BP];rfl
theorem Zn(h:w.length=u.length):upd (wv w) 0 (wv u)=some (wv u):=by
 show(if _ then _ else _)=_
 rw[if_pos (by rw[JQ,Am,Am];omega)]
 congr 2;rw[JQ,List.take_zero,Dw (by rw[Am,Am];omega)]
 simp
theorem kN(hA:τ[A]?=some [.arrv 0 16 es])(he:es[i]?=some (wv w))(hk:k<w.length):BR (.ld 1 false) [.aptr A 0 16 i (0+k * 1)] τ=some [some (wc (w.getD k 0#64))]:=by
 simp only[BR,hA,Dq,and_self,if_true,he,Yg,sub,JQ,Bc,Dv,eB hk];rfl
theorem AzS(hA:τ[A]?=some [.arrv 0 16 es])(he:es[i]?=some (wv w))(hk:k<w.length):EM pur run (.w (.st 1)) [.aptr A 0 16 i (0+k * 1),wc X] τ [] (τ.set A [.arrv 0 16 (es.set i (wv (w.set k X)))]):=by
 refine⟨0,fun n _=>?_⟩
 have hc:(wc X).cells.length=1∧(wc X).okc∧(wc X).ones:=⟨rfl,rfl,rfl⟩;have hu:upd (wv w) (0+k * 1) (wc X).Ag=some (wv (w.set k X)):=by rw[Bc];exact ed hk
 show Cq pur (run n) (.st 1) [.aptr A 0 16 i (0+k * 1),wc X] τ=_;simp only[Cq,hA,Dq,and_self,if_true,he,if_pos hc,hu];rfl
theorem TW(hk:k<16):AJ (.ixa 16 1 false) [.aptr A 0 16 i 0,N k]=some [some (.aptr A 0 16 i (0+k * 1))]:=by
 simp only[AJ,ixV];rw[if_pos (by omega)]
 simp only[faV,Bz];rfl
theorem o7(X Y:BitVec 64):AJ (.bin .or 0) [wc X,wc Y]=some [some (wc (X ||| Y))]:=Yl (op:=.or) (r:=fun x y=>x ||| y) (.inl ⟨rfl,rfl⟩) X Y
theorem ic(X Y:BitVec 64):AJ (.bin .andNot 0) [wc X,wc Y]=some [some (wc (X &&& ~~~Y))]:=Yl (op:=.andNot) (r:=fun x y=>x &&& ~~~y) (.inr (.inr ⟨rfl,rfl⟩)) X Y
theorem Xr{d:Nat}{v:PV}(hk:k<16):AJ (.ixl d 16 1) [v,N k]=some [some (.lref d (k * 1))]:=by
 simp only[AJ];rw[if_pos (by omega),Bz]
theorem rH{d:Nat}(hk:k<w.length):AJ (.ldf d 1 false) [.lref d (k * 1),wv w]=some [some (wc (w.getD k 0#64))]:=by
 simp only[AJ,if_true,sub,JQ,Dv,eB hk];rfl
theorem fF{d:Nat}(hk:k<w.length):AJ (.stf d 1) [.lref d (k * 1),wv w,wc X]=some [some (wv (w.set k X))]:=by
 have hu:upd (wv w) (k * 1) (wc X).Ag=some (wv (w.set k X)):=ed hk;have hc:(wc X).cells.length=1∧(wc X).okc∧(wc X).ones:=⟨rfl,rfl,rfl⟩;simp only[AJ];rw[if_pos ⟨trivial,hc⟩,hu];rfl
theorem Xj(h:w.length=16):AJ (.ldl 0 16 true) [wv w]=some [some (wv w)]:=by
 have e:sub (wv w) 0 16 true=some (wv w):=by
  have e1:((w.map wc).drop 0).take 16=w.map wc:=by rw[CS,BC (by rw[Am];omega)]
  show(if 0+16≤(w.map wc).length∧(((w.map wc).drop 0).take 16).all PV.flat=true then some (PV.agg (((w.map wc).drop 0).take 16)) else none)=_
  rw[e1,if_pos ⟨by rw[Am];omega,Js⟩];rfl
 have e2:Tm (wv w) 0 16 true=some (wv w):=by unfold Tm;rw[e]
 show(Tm (wv w) 0 16 true).map (fun v=>[some v.Ag])=_
 rw[e2,Ay,Fy]
theorem Yb:(wv w).okc=true:=by
 simp only[wv,PV.okc]
 first | rfl | simp[Js]
theorem Qb:(wv w).ones=true:=by
 show(w.map wc).all PV.one=true;exact sF
theorem V5(h:w.length=u.length)(hu:u.length=16):AJ (.stl 0 16) [wv w,wv u]=some [some (wv u)]:=by
 refine sU (by rw[UB];exact hu) Yb Qb ?_
 rw[Fy];exact Zn h
theorem qX(h:w.length=16):Lg (wv w) (some 16)=true:=by
 show(fits 16 true (wv w)&&(wv w).cells.all PV.flat)=true;rw[eD,Bool.and_true];simp only[wv,fits,Am,h]
 first | rfl | simp
theorem tY(h:w.length=16)(t:Nat):(Gt [(t,some (wv w))] [(t,some 16)]).bind Fu=some (wv w):=by
 have e:Dm [(t,some (wv w))] t=some (wv w):=by simp[Dm]
 rw[Ny,e,Qh];simp only[qX h,if_true,Fy];rfl
theorem ZQ(h:w.length=16)(b:Bool):(Gt [(2,some (wv w)),(3,some (.bool b))] [(2,some 16),(3,none)]).bind Fu=some (.tuple [wv w,.bool b]):=by
 have e:Dm [(2,some (wv w)),(3,some (.bool b))] 2=some (wv w):=rfl;have e2:Dm [(2,some (wv w)),(3,some (.bool b))] 3=some (.bool b):=rfl
 have h0:Gt [(2,some (wv w)),(3,some (.bool b))] [(3,none)]=some [.bool b]:=by
  rw[Ny,e2,Qh];rfl
 rw[Ny,e,h0];dsimp only;rw[if_pos (qX h),Fy];show(if[wv w,PV.bool b].all PV.okt then some (PV.tuple [wv w,.bool b]) else none)=_
 rw[if_pos ?_]
 simp only[Bi,Cg,wv,PV.okt,PV.flat,PV.LP,PV.free,Bool.and_true,Js,Bool.or_true]
 try simp[Js]
def AW(τ:Sto)(A n:Nat)(S:Nat→W):Prop:=τ[A]?=some [.arrv 0 16 ((List.range n).map fun i=>wv (S i))]
theorem FZ{S:Nat→W}(h:i<n):((List.range n).map fun i=>wv (S i))[i]?=some (wv (S i)):=by
 rw[Af,Ck h];rfl
theorem tJ{S:Nat→W}:((List.range n).map fun i=>wv (S i)).set i (wv x)=(List.range n).map fun j=>wv (CG S i x j):=by
 refine BH fun j=>?_
 rw[BO];by_cases hj:j<n
 ·rw[FZ (S:=S) hj,FZ (S:=fun j=>CG S i x j) hj]
  by_cases hij:i=j
  ·subst hij;rw[if_pos rfl,if_pos (by rw[Am,CO];exact hj)]
   unfold CG;rw[if_pos rfl]
  ·rw[if_neg hij];unfold CG;rw[if_neg fun e=>hij e.symm]
 ·rw[AC (by rw[Am,CO];omega),AC (by rw[Am,CO];omega)]
  split
  ·rw[if_neg (by rw[Am,CO];omega)]
  ·rfl
theorem AW.set{S:Nat→W}(h:AW τ A n S)(i:Nat)(x:W):AW (τ.set A [.arrv 0 16 (((List.range n).map fun i=>wv (S i)).set i (wv x))]) A n (CG S i x):=by
 unfold AW;rw[AP (Ab.1 h).1,tJ]
theorem AW.other{S:Nat→W}{B:Nat}{o:List PV}(h:AW τ A n S)(hne:B≠A):AW (τ.set B o) A n S:=by
 unfold AW;rw[Ap hne];exact h
theorem AW.old{S:Nat→W}{τ':Sto}(h:AW τ A n S)(ho:Old τ τ'):AW τ' A n S:=ho.get h
end
end Go.Abs.Z

namespace Go.Abs.Z
open Go.Proofs Go.RowKit
set_option linter.unusedVariables false
set_option linter.unusedSimpArgs false
variable{τ:Sto}{A i B j k C l:Nat}{es:List PV}
theorem R30:Rn 30 a30:=fun _ _ _=>by kernel_rfl
theorem R31:Rn 31 a31:=fun _ _ _=>by kernel_rfl
theorem AkR{w:W}(hA:τ[A]?=some [.arrv 0 16 es])(hw:es[i]?=some (wv w))(lw:w.length=16){B j:Nat}{fs:List PV}{u:W}(hB:τ[B]?=some [.arrv 0 16 fs])(hu:fs[j]?=some (wv u))(lu:u.length=16){k:Nat}(hk:k<16){e:Bt}{ff1:FF}{σ1:Sto}(hnx:LpE a30 0 [(0,some (.aptr A 0 16 i 0)),(1,some (.aptr B 0 16 j 0)),(5,N (k+1))] (τ.set A [.arrv 0 16 (es.set i (wv (w.set k (w.getD k 0#64 ||| u.getD k 0#64))))]) e ff1 σ1):LpE a30 0 [(0,some (.aptr A 0 16 i 0)),(1,some (.aptr B 0 16 j 0)),(5,N k)] τ e ff1 σ1:=by
 exact ER [0,1,5] [sp 0 (Cm .i64 (show(k:Int) < 16 by omega)),sp 6 (TW (A:=A) (i:=i) (k:=k) (by omega)),st 0 (QS τ (kN (k:=k) hA hw (by omega))),sp 3 (TW (A:=B) (i:=j) (k:=k) (by omega)),st 0 (QS τ (kN (k:=k) hB hu (by omega))),sp 0 (o7 (w.getD k 0#64) (u.getD k 0#64)),sp 1 (TW (A:=A) (i:=i) (k:=k) (by omega)),st 0 (AzS (k:=k) (X:=(w.getD k 0#64) ||| (u.getD k 0#64)) hA hw (by omega)),sp 0 (Di k 1 (by omega))] hnx
theorem AkQ(hk:¬k<16):LpE a30 0 [(0,some (.aptr A 0 16 i 0)),(1,some (.aptr B 0 16 j 0)),(5,N k)] τ (.exit 0) [] τ:=by
 exact DR [] [sp 0 (CY .i64 (show ¬(k:Int) < 16 by omega))]
theorem q30{τ2:Sto}(L:LpE a30 0 [(0,some (.aptr A 0 16 i 0)),(1,some (.aptr B 0 16 j 0)),(5,N 0)] τ (.exit 0) [] τ2):E 30 [.aptr A 0 16 i 0,.aptr B 0 16 j 0] τ (.tuple []) τ2:=by
 exact rule R30 [sl 1 [0,1,5] L]
theorem AkP{w:W}(hA:τ[A]?=some [.arrv 0 16 es])(hw:es[i]?=some (wv w))(lw:w.length=16){B j:Nat}{fs:List PV}{u:W}(hB:τ[B]?=some [.arrv 0 16 fs])(hu:fs[j]?=some (wv u))(lu:u.length=16){C l:Nat}{gs:List PV}{x:W}(hC:τ[C]?=some [.arrv 0 16 gs])(hx:gs[l]?=some (wv x))(lx:x.length=16){k:Nat}{m:W}(lm:m.length=16)(hk:k<16){e:Bt}{ff1:FF}{σ1:Sto}(hnx:LpE a31 0 [(0,some (.aptr A 0 16 i 0)),(1,some (.aptr B 0 16 j 0)),(2,some (.aptr C 0 16 l 0)),(6,some (wv zW)),(7,some (wv (m.set k (w.getD k 0#64 &&& ~~~(u.getD k 0#64) ||| x.getD k 0#64)))),(9,N (k+1))] τ e ff1 σ1):LpE a31 0 [(0,some (.aptr A 0 16 i 0)),(1,some (.aptr B 0 16 j 0)),(2,some (.aptr C 0 16 l 0)),(6,some (wv zW)),(7,some (wv m)),(9,N k)] τ e ff1 σ1:=by
 exact ER [0,1,2,6,7,9] [sp 0 (Cm .i64 (show(k:Int) < 16 by omega)),sp 7 (TW (A:=A) (i:=i) (k:=k) (by omega)),st 0 (QS τ (kN (k:=k) hA hw (by omega))),sp 3 (TW (A:=B) (i:=j) (k:=k) (by omega)),st 0 (QS τ (kN (k:=k) hB hu (by omega))),sp 0 (ic (w.getD k 0#64) (u.getD k 0#64)),sp 3 (TW (A:=C) (i:=l) (k:=k) (by omega)),st 0 (QS τ (kN (k:=k) hC hx (by omega))),sp 0 (o7 ((w.getD k 0#64) &&& ~~~(u.getD k 0#64)) (x.getD k 0#64)),sp 0 (Xr (d:=7) (v:=wv m) (k:=k) (by omega)),sp 0 (fF (d:=7) (w:=m) (k:=k) (X:=(w.getD k 0#64) &&& ~~~(u.getD k 0#64) ||| (x.getD k 0#64)) (by omega)),sp 0 (Di k 1 (by omega))] hnx
theorem AkO{m:W}(hk:¬k<16):LpE a31 0 [(0,some (.aptr A 0 16 i 0)),(1,some (.aptr B 0 16 j 0)),(2,some (.aptr C 0 16 l 0)),(6,some (wv zW)),(7,some (wv m)),(9,N k)] τ (.exit 0) [(6,some (wv zW)),(7,some (wv m))] τ:=by
 exact DR [6,7] [sp 0 (CY .i64 (show ¬(k:Int) < 16 by omega))]
theorem q31{m:W}(lm:m.length=16)(L:LpE a31 0 [(0,some (.aptr A 0 16 i 0)),(1,some (.aptr B 0 16 j 0)),(2,some (.aptr C 0 16 l 0)),(6,some (wv zW)),(7,some (wv zW)),(9,N 0)] τ (.exit 0) [(6,some (wv zW)),(7,some (wv m))] τ):E 31 [.aptr A 0 16 i 0,.aptr B 0 16 j 0,.aptr C 0 16 l 0] τ (wv m) τ:=by
 exact Wq R31 [sl 3 [0,1,2,6,7,9] L,sp 0 (Xj lm),sp 0 (V5 (Hz.trans lm.symm) lm)] (tY lm 6)
end Go.Abs.Z

namespace Go.Abs.Z
open Go.Proofs Go.RowKit
set_option linter.unusedVariables false
theorem gL{α:Type}{l:List α}{i:Nat}{x:α}(h:l[i]?=some x):l.set i x=l:=by
 refine BH fun j=>?_
 rw[BO];by_cases hij:i=j
 ·subst hij;rw[if_pos rfl,if_pos (Ab.1 h).1,h]
 ·rw[if_neg hij]
theorem qJ{a b:W}(ha:a.length=16)(hb:b.length=16)(h:∀q,q<16→a.getD q 0#64=b.getD q 0#64):a=b:=by
 apply List.ext_getElem (by omega)
 intro q h1 h2;have:=h q (by omega)
 rw[Aj,Aj,Ad h1,Ad h2] at this;exact this
theorem Wj{w:W}{k q:Nat}{X:BitVec 64}(hk:k<w.length):(w.set k X).getD q 0#64=if q=k then X else w.getD q 0#64:=by
 rw[Aj,BO];by_cases h:k=q
 ·subst h;rw[if_pos rfl,if_pos hk,if_pos rfl];rfl
 ·rw[if_neg h,if_neg fun e=>h e.symm,Aj]
theorem qb{a b:W}(ha:a.length=16)(hb:b.length=16){q:Nat}(hq:q<16):(jn a b).getD q 0#64=a.getD q 0#64 ||| b.getD q 0#64:=by
 unfold jn;rw[Aj,Cf,Aj,Aj,Ad (l:=a) (by omega),Ad (l:=b) (by omega)]
 rfl
theorem pE{a b c:W}(ha:a.length=16)(hb:b.length=16)(hc:c.length=16){q:Nat}(hq:q<16):(ps a b c).getD q 0#64=a.getD q 0#64 &&& ~~~(b.getD q 0#64) ||| c.getD q 0#64:=by
 unfold ps;rw[Aj,Cf,Cf,Aj,Aj,Aj,Ad (l:=a) (by omega),Ad (l:=b) (by omega),Ad (l:=c) (by omega)]
 rfl
section
variable{A B C i j l:Nat}{fs gs:List PV}{w0 u x:W}
theorem kw(hu:fs[j]?=some (wv u))(lu:u.length=16)(l0:w0.length=16)(hne:A≠B):∀(m k:Nat) (τ:Sto) (es:List PV) (w:W),m=16 - k→k≤16→τ[A]?=some [.arrv 0 16 es]→es[i]?=some (wv w)→w.length=16→τ[B]?=some [.arrv 0 16 fs]→
  (∀q,q<16→w.getD q 0#64=if q<k then w0.getD q 0#64 ||| u.getD q 0#64 else w0.getD q 0#64)→
  LpE a30 0 [(0,some (.aptr A 0 16 i 0)),(1,some (.aptr B 0 16 j 0)),(5,some (N k))] τ (.exit 0) [] (τ.set A [.arrv 0 16 (es.set i (wv (jn w0 u)))])
 |0,k,τ,es,w,hm,hk,hA,hw,lw,hB,hb=>by
  have e:w=jn w0 u:=qJ lw (YT l0 lu) fun q hq=>by rw[hb q hq,if_pos (by omega),qb l0 lu hq]
  rw[←e,gL hw,gL hA];exact AkQ (by omega)
 |m+1,k,τ,es,w,hm,hk,hA,hw,lw,hB,hb=>by
  have hk16:k<16:=by omega
  have hAl:=(Ab.1 hA).1;have hel:=(Ab.1 hw).1;refine AkR hA hw lw hB hu lu hk16 ?_
  have:=kw hu lu l0 hne m (k+1) (τ.set A [.arrv 0 16 (es.set i (wv (w.set k (w.getD k 0#64 ||| u.getD k 0#64))))]) (es.set i (wv (w.set k (w.getD k 0#64 ||| u.getD k 0#64)))) (w.set k (w.getD k 0#64 ||| u.getD k 0#64)) (by omega) (by omega) (AP hAl) (AP hel) (by simp[lw]) (by rw[Ap hne];exact hB) (fun q hq=>by
   rw[Wj (by omega)]
   by_cases hqk:q=k
   ·subst hqk;rw[if_pos rfl,if_pos (by omega),hb q hq,if_neg (by omega)]
   ·rw[if_neg hqk,hb q hq];by_cases h2:q<k
    ·rw[if_pos h2,if_pos (by omega)]
    ·rw[if_neg h2,if_neg (by omega)])
  rw[List.set_set,List.set_set] at this;exact this
theorem e30{τ:Sto}{es:List PV}{w:W}(hA:τ[A]?=some [.arrv 0 16 es])(hw:es[i]?=some (wv w))(lw:w.length=16)(hB:τ[B]?=some [.arrv 0 16 fs])(hu:fs[j]?=some (wv u))(lu:u.length=16)(hne:A≠B):
  E 30 [.aptr A 0 16 i 0,.aptr B 0 16 j 0] τ (.tuple []) (τ.set A [.arrv 0 16 (es.set i (wv (jn w u)))]):=
 q30 (kw hu lu lw hne 16 0 τ es w rfl (by decide) hA hw lw hB fun q _=>by rw[if_neg (by omega)])
theorem ku{τ:Sto}{es:List PV}{w:W}(hA:τ[A]?=some [.arrv 0 16 es])(hw:es[i]?=some (wv w))(lw:w.length=16)(hB:τ[B]?=some [.arrv 0 16 fs])(hu:fs[j]?=some (wv u))(lu:u.length=16)(hC:τ[C]?=some [.arrv 0 16 gs])(hx:gs[l]?=some (wv x))(lx:x.length=16):∀(m k:Nat) (y:W),m=16 - k→k≤16→y.length=16→
  (∀q,q<k→y.getD q 0#64=(ps w u x).getD q 0#64)→
  LpE a31 0 [(0,some (.aptr A 0 16 i 0)),(1,some (.aptr B 0 16 j 0)),(2,some (.aptr C 0 16 l 0)),(6,some (wv zW)),(7,some (wv y)),(9,some (N k))] τ (.exit 0) [(6,some (wv zW)),(7,some (wv (ps w u x)))] τ
 |0,k,y,hm,hk,ly,hb=>by
  have e:y=ps w u x:=qJ ly (OB lw lu lx) fun q hq=>hb q (by omega)
  rw[←e];exact AkO (by omega)
 |m+1,k,y,hm,hk,ly,hb=>by
  have hk16:k<16:=by omega
  refine AkP hA hw lw hB hu lu hC hx lx ly hk16 ?_
  refine ku hA hw lw hB hu lu hC hx lx m (k+1) _ (by omega) (by omega) (by simp[ly]) (fun q hq=>?_)
  rw[Wj (by omega)]
  by_cases hqk:q=k
  ·subst hqk;rw[if_pos rfl,pE lw lu lx hk16]
  ·rw[if_neg hqk,hb q (by omega)]
theorem e31{τ:Sto}{es:List PV}{w:W}(hA:τ[A]?=some [.arrv 0 16 es])(hw:es[i]?=some (wv w))(lw:w.length=16)(hB:τ[B]?=some [.arrv 0 16 fs])(hu:fs[j]?=some (wv u))(lu:u.length=16)(hC:τ[C]?=some [.arrv 0 16 gs])(hx:gs[l]?=some (wv x))(lx:x.length=16):
  E 31 [.aptr A 0 16 i 0,.aptr B 0 16 j 0,.aptr C 0 16 l 0] τ (wv (ps w u x)) τ:=
 q31 (OB lw lu lx) (ku hA hw lw hB hu lu hC hx lx 16 0 zW rfl (by decide) Hz fun q hq=>by omega)
end
end Go.Abs.Z

namespace Go.Abs.Z
open Go.Proofs Go.RowKit
set_option linter.unusedVariables false
section
variable{τ:Sto}{A n a b:Nat}{is:List PV}{w r:PV}{l q:List Int}
theorem DX{size:Nat}(h:a<n):AJ (.idx size) [.arr A 0 0 n size,N a]=some [some (.aptr A 0 size a 0)]:=by
 show(K7 size (.arr A 0 0 n size) (N a)).map _=_;simp only[K7];rw[if_pos ⟨trivial,by omega,by omega⟩,Bz,Bc];rfl
theorem kQ(hA:τ[A]?=some [.arrv 0 1 is])(hw:is[a]?=some w)(hl:Ls w l):BR (.ld 1 false) [.aptr A 0 1 a 0] τ=some [some w]:=by
 simp only[BR,hA,Dq,and_self,if_true,hw];rcases hl with rfl | ⟨rfl,_⟩<;>rfl
theorem qN(hA:τ[A]?=some [.arrv 0 1 is])(hw:is[a]?=some w)(hl:Ls w l)(hr:Ls r q):EM pur run (.w (.st 1)) [.aptr A 0 1 a 0,r] τ [] (τ.set A [.arrv 0 1 (is.set a r)]):=by
 refine⟨0,fun n _=>?_⟩
 have hc:r.cells.length=1∧r.okc∧r.ones:=by rcases hr with rfl | ⟨rfl,_⟩<;>exact⟨rfl,rfl,rfl⟩
 have hu:upd w 0 r.Ag=some r:=by
  rcases hl with rfl | ⟨rfl,_⟩<;>rcases hr with rfl | ⟨rfl,_⟩<;>rfl
 show Cq pur (run n) (.st 1) [.aptr A 0 1 a 0,r] τ=_;simp only[Cq,hA,Dq,and_self,if_true,hw,if_pos hc,hu];rfl
theorem ng{z:PV}{s:Nat}:EM pur run (.w .toA) [.fresh s n z] τ [some (.arr τ.length 0 0 n s),none] (τ++[[.arrv 0 s (List.replicate n z)]]):=⟨0,fun _ _=>rfl⟩
theorem pV{z:PV}{s:Nat}(h:n≤Cb)(hz:z.cells.length=s∧z.ones=true):AJ (.mkz s z) [N n,N n]=some [some (.fresh s n z)]:=by
 show(if _ then _ else _)=_
 rw[if_pos ⟨rfl,by omega,by exact_mod_cast h,hz⟩,Bz]
end
end Go.Abs.Z

namespace Go.Abs.Z
open PV
open Go.Proofs Go.RowKit
set_option linter.unusedVariables false
set_option linter.unusedSimpArgs false
theorem qR(m:Nat)(hm:m<64):AJ (.bin .shl 0) [.int .u64 1,N m]=some [some (wc (1#64 <<< m))]:=by
 have h1:Go.binOp .shl 0 (.int .u64 1) (.int .i64 (m:Nat))=.pure (.int .u64 ((1#64 <<< m).toNat:Int)):=by
  show Op.shift .shl .u64 1 .i64 (m:Nat)=_;unfold Op.shift;have:¬(m:Int) < 0:=by omega
  rw[if_neg this];simp only[Bz];have hb:IntKind.u64.bits=64:=rfl;rw[hb,Nat.min_eq_left (by omega)]
  show Sem.pure (Value.int IntKind.u64 (IntKind.u64.wrap (1 * 2 ^ m)))=_;congr 2
  have e:(1#64 <<< m).toNat=2 ^ m:=by
   rw[BitVec.toNat_shiftLeft];have h2:(1#64:BitVec 64).toNat=1:=rfl;rw[h2,Nat.shiftLeft_eq,Nat.one_mul];exact ES (Nat.pow_lt_pow_right (by decide) hm)
  rw[e];have hlt:2 ^ m<2 ^ 64:=Nat.pow_lt_pow_right (by decide) hm
  rw[IntKind.wrap_u64,Int.one_mul];have:((2:Int) ^ m)=((2 ^ m:Nat):Int):=by simp
  rw[this];omega
 refine Nl ?_
 simp only[J8,JD,if_true,h1]
theorem nu{j:Nat}(h0:0<j)(hj:j<4000000000):AJ (.bin .sub 0) [N j,I 1]=some [some (N (j - 1))]:=by
 apply Ye;rw[IntKind.wrap_i64];omega
section
variable{τ:Sto}{A j n:Nat}{es:List PV}{u w z:W}{o:List PV}
theorem rC(h:n≤Cb):EM pur run (.w (.mks 16 (wv zW))) [N n,N n] τ [some (.arr τ.length 0 0 n 16)] (τ++[[PV.arrv 0 16 (List.replicate n (wv zW))]]):=by
 refine⟨0,fun m _=>?_⟩
 show(if _ then _ else _)=_
 rw[if_pos ⟨rfl,by omega,by exact_mod_cast h,rfl,Qb⟩,Bz]
theorem Az1{b:Bool}(h:w.length=16):AJ (.ext 0) [.tuple [wv w,.bool b]]=some [some (wv w)]:=lM 0 rfl ⟨rfl,Fy⟩
theorem Az0{b:Bool}:AJ (.ext 1) [.tuple [wv w,.bool b]]=some [some (.bool b)]:=lM 1 rfl ⟨rfl,rfl⟩
theorem Zu(h:w.length=16):EM pur run (.w (.stO 16)) [.hole 16,wv w] τ [some (.ref τ.length 0)] (τ++[(wv w).cells]):=by
 refine⟨0,fun m _=>?_⟩
 show(if _ then _ else _)=_
 rw[if_pos ⟨rfl,by rw[UB];exact h,Yb,Qb⟩,Fy]
theorem Vk{id:Nat}(h:w.length=16)(hi:τ[id]?=some (wv w).cells):BR (.ld 16 true) [.ref id 0] τ=some [some (wv w)]:=by
 refine Xk ?_ Fy
 rw[hi,Dn];have e1:((w.map wc).drop 0).take 16=w.map wc:=by rw[CS,BC (by rw[Am];omega)]
 simp only[K9,JQ,e1];have e3:Iu (w.map wc)=some (wv w):=by unfold Iu;rw[if_pos Js];rfl
 simp only[e3,Am,h]
 first | rfl | simp[wv,h,Js]
theorem Hw(h:τ[A]?=some o){p:List PV}:(τ++[p])[A]?=some o:=by
 rw[Ae (Ab.1 h).1];exact h
theorem qK(hA:τ[A]?=some [.arrv 0 16 es])(hz:es[j]?=some (wv z))(lz:z.length=16)(lu:u.length=16):EM pur run (.w (.st 16)) [.aptr A 0 16 j 0,wv u] τ [] (τ.set A [.arrv 0 16 (es.set j (wv u))]):=by
 refine⟨0,fun n _=>?_⟩
 have hc:(wv u).cells.length=16∧(wv u).okc∧(wv u).ones:=⟨by rw[UB];exact lu,Yb,Qb⟩
 have hu:upd (wv z) 0 (wv u).Ag=some (wv u):=by rw[Fy];exact Zn (by omega)
 show Cq pur (run n) (.st 16) [.aptr A 0 16 j 0,wv u] τ=_;simp only[Cq,hA,Dq,and_self,if_true,hz,if_pos hc,hu];rfl
end
variable{τ:Sto}{v:PV}{ws:List PV}{n:Nat}
theorem R48:Rn 48 a48:=fun _ _ _=>by kernel_rfl
theorem R27:Rn 27 a27:=fun _ _ _=>by kernel_rfl
theorem qZ{l:List Int}{w:W}(hv:Ls v l)(lw:w.length=16){j n:Nat}(hj:j<l.length)(hs:l.length<4000000000)(hx:l[j]?=some (n:Int))(hn:n<1024)(h0:j=0){e:Bt}{ff1:FF}{σ1:Sto}(hnx:LpE a48 0 [(0,v),(2,some (wv zW)),(4,some (wv (sb w n))),(7,v),(8,N l.length),(9,N (j+1))] τ e ff1 σ1):LpE a48 0 [(0,v),(2,some (wv zW)),(4,some (wv w)),(7,v),(8,N l.length),(9,N j)] τ e ff1 σ1:=by
 exact ER [0,2,4,7,8,9] [sp 0 (Cm .i64 (show(j:Int) < (l.length:Int) by omega)),sp 2 (by rw[hv.CQ hx];exact Dh (o:=false) hx:AJ (.idx 1) [v,N j]=some [some (.vptr (N n))]),sp 4 (CY .i64 (show ¬(n:Int) < 0 by omega)),sq 2 (KP .i64 (show ¬(n:Int)≥1024 by omega)),sq 3 (Ia .i64 (show ¬(j:Int) > 0 by omega)),sp 12 (gZ n 64 (by omega) (by decide)),sp 0 (Xr (d:=4) (v:=wv w) (k:=n / 64) (by omega)),sp 0 (rH (d:=4) (w:=w) (k:=n / 64) (by omega)),sp 1 (gY n 64 (by decide)),sp 0 (qR (n % 64) (by omega)),sp 0 (o7 (w.getD (n / 64) 0#64) (1#64 <<< (n % 64))),sp 0 (Xr (d:=4) (v:=wv w) (k:=n / 64) (by omega)),sp 0 (fF (d:=4) (w:=w) (k:=n / 64) (X:=w.getD (n / 64) 0#64 ||| 1#64 <<< (n % 64)) (by omega)),sp 0 (Di j 1 (by omega))] hnx
theorem wP{l:List Int}{w:W}(hv:Ls v l)(lw:w.length=16){j n:Nat}(hj:j<l.length)(hs:l.length<4000000000)(hx:l[j]?=some (n:Int))(hn:n<1024)(h0:0<j){y:Int}(hy:l[j - 1]?=some y)(h2:y<(n:Int)){e:Bt}{ff1:FF}{σ1:Sto}(hnx:LpE a48 0 [(0,v),(2,some (wv zW)),(4,some (wv (sb w n))),(7,v),(8,N l.length),(9,N (j+1))] τ e ff1 σ1):LpE a48 0 [(0,v),(2,some (wv zW)),(4,some (wv w)),(7,v),(8,N l.length),(9,N j)] τ e ff1 σ1:=by
 exact ER [0,2,4,7,8,9] [sp 0 (Cm .i64 (show(j:Int) < (l.length:Int) by omega)),sp 2 (by rw[hv.CQ hx];exact Dh (o:=false) hx:AJ (.idx 1) [v,N j]=some [some (.vptr (N n))]),sp 4 (CY .i64 (show ¬(n:Int) < 0 by omega)),sq 2 (KP .i64 (show ¬(n:Int)≥1024 by omega)),sq 3 (KO .i64 (show(j:Int) > 0 by omega)),sq 1 (Gv hv),sq 1 (nu h0 (by omega)),sq 0 (by rw[hv.CQ hy];exact Dh (o:=false) hy:AJ (.idx 1) [v,N (j - 1)]=some [some (.vptr (I y))]),sq 2 (KP .i64 (show ¬y≥(n:Int) by omega)),sp 4 (gZ n 64 (by omega) (by decide)),sp 0 (Xr (d:=4) (v:=wv w) (k:=n / 64) (by omega)),sp 0 (rH (d:=4) (w:=w) (k:=n / 64) (by omega)),sp 1 (gY n 64 (by decide)),sp 0 (qR (n % 64) (by omega)),sp 0 (o7 (w.getD (n / 64) 0#64) (1#64 <<< (n % 64))),sp 0 (Xr (d:=4) (v:=wv w) (k:=n / 64) (by omega)),sp 0 (fF (d:=4) (w:=w) (k:=n / 64) (X:=w.getD (n / 64) 0#64 ||| 1#64 <<< (n % 64)) (by omega)),sp 0 (Di j 1 (by omega))] hnx
theorem AjB{l:List Int}{w:W}(hv:Ls v l)(lw:w.length=16){j:Nat}{x:Int}(hj:j<l.length)(hs:l.length<4000000000)(hx:l[j]?=some x)(h:x<0):LpE a48 0 [(0,v),(2,some (wv zW)),(4,some (wv w)),(7,v),(8,N l.length),(9,N j)] τ .ret [(2,some (wv w)),(3,bool false)] τ:=by
 exact DR [2,3] [sp 0 (Cm .i64 (show(j:Int) < (l.length:Int) by omega)),sp 2 (by rw[hv.CQ hx];exact Dh (o:=false) hx:AJ (.idx 1) [v,N j]=some [some (.vptr (I x))]),sp 4 (Cm .i64 h),sp 18 (Xj lw),sp 0 (V5 (Hz.trans lw.symm) lw)]
theorem AjA{l:List Int}{w:W}(hv:Ls v l)(lw:w.length=16){j:Nat}{x:Int}(hj:j<l.length)(hs:l.length<4000000000)(hx:l[j]?=some x)(h:¬x<0)(h2:x≥1024):LpE a48 0 [(0,v),(2,some (wv zW)),(4,some (wv w)),(7,v),(8,N l.length),(9,N j)] τ .ret [(2,some (wv w)),(3,bool false)] τ:=by
 exact DR [2,3] [sp 0 (Cm .i64 (show(j:Int) < (l.length:Int) by omega)),sp 2 (by rw[hv.CQ hx];exact Dh (o:=false) hx:AJ (.idx 1) [v,N j]=some [some (.vptr (I x))]),sp 4 (CY .i64 (show ¬x<0 by omega)),sq 2 (SV .i64 h2),sp 15 (Xj lw),sp 0 (V5 (Hz.trans lw.symm) lw)]
theorem Aj9{l:List Int}{w:W}(hv:Ls v l)(lw:w.length=16){j:Nat}{x:Int}(hj:j<l.length)(hs:l.length<4000000000)(hx:l[j]?=some x)(h0:0<j){y:Int}(hy:l[j - 1]?=some y)(h:0≤x∧x<1024)(h2:y≥x):LpE a48 0 [(0,v),(2,some (wv zW)),(4,some (wv w)),(7,v),(8,N l.length),(9,N j)] τ .ret [(2,some (wv w)),(3,bool false)] τ:=by
 exact DR [2,3] [sp 0 (Cm .i64 (show(j:Int) < (l.length:Int) by omega)),sp 2 (by rw[hv.CQ hx];exact Dh (o:=false) hx:AJ (.idx 1) [v,N j]=some [some (.vptr (I x))]),sp 4 (CY .i64 (show ¬x<0 by omega)),sq 2 (KP .i64 (show ¬x≥1024 by omega)),sq 3 (KO .i64 (show(j:Int) > 0 by omega)),sq 1 (Gv hv),sq 1 (nu h0 (by omega)),sq 0 (by rw[hv.CQ hy];exact Dh (o:=false) hy:AJ (.idx 1) [v,N (j - 1)]=some [some (.vptr (I y))]),sq 2 (SV .i64 h2),sp 3 (Xj lw),sp 0 (V5 (Hz.trans lw.symm) lw)]
theorem Aj8{l:List Int}{w:W}(hv:Ls v l)(lw:w.length=16){j:Nat}(hj:¬j<l.length):LpE a48 0 [(0,v),(2,some (wv zW)),(4,some (wv w)),(7,v),(8,N l.length),(9,N j)] τ (.exit 0) [(2,some (wv zW)),(4,some (wv w))] τ:=by
 exact DR [2,4] [sp 0 (CY .i64 (show ¬(j:Int) < (l.length:Int) by omega))]
theorem AjD{l:List Int}{w:W}(hv:Ls v l)(lw:w.length=16)(L:LpE a48 0 [(0,v),(2,some (wv zW)),(4,some (wv zW)),(7,v),(8,N l.length),(9,N 0)] τ .ret [(2,some (wv w)),(3,bool false)] τ):E 48 [v] τ (.tuple [wv w,.bool false]) τ:=by
 exact Wq R48 [sp 3 (Gv hv),sp 0 (E8 hv),sl 1 [0,2,4,7,8,9] L] (ZQ lw false)
theorem AjC{l:List Int}{w:W}(hv:Ls v l)(lw:w.length=16)(L:LpE a48 0 [(0,v),(2,some (wv zW)),(4,some (wv zW)),(7,v),(8,N l.length),(9,N 0)] τ (.exit 0) [(2,some (wv zW)),(4,some (wv w))] τ):E 48 [v] τ (.tuple [wv w,.bool true]) τ:=by
 exact Wq R48 [sp 3 (Gv hv),sp 0 (E8 hv),sl 1 [0,2,4,7,8,9] L,sp 0 (Xj lw),sp 0 (V5 (Hz.trans lw.symm) lw)] (ZQ lw true)
theorem AkW{ls:List (List Int)}(hv:Dk v ws ls)(h:ls.length≠n):E 27 [v,N n] τ (.tuple [.nils,.bool false]) τ:=by
 exact rule R27 [sp 2 (EX hv),sp 0 (Hq hv),sp 1 (SS .i64 (show(ls.length:Int)≠(n:Int) by omega))]
theorem AkV{ls:List (List Int)}(hv:Dk v ws ls){τ2:Sto}(h:ls.length=n)(hm:n≤Cb)(L:LpE a27 0 [(6,arr τ.length 0 0 n 16),(17,v),(18,N n),(19,N 0)] (τ++[[PV.arrv 0 16 (List.replicate n (wv zW))]]) .ret [(4,nils),(5,bool false)] τ2):E 27 [v,N n] τ (.tuple [.nils,.bool false]) τ2:=by
 exact rule R27 [sp 2 (EX hv),sp 0 (Hq hv),sp 1 (IJ .i64 (show(ls.length:Int)=(n:Int) by omega)),st 2 (rC (τ:=τ) hm),sp 1 (EX hv),sp 0 (by rw[←h];exact Hq hv:AJ (.len false) [v]=some [some (N n)]),sl 1 [6,17,18,19] L]
theorem AkU{ls:List (List Int)}(hv:Dk v ws ls){τ2:Sto}(h:ls.length=n)(hm:n≤Cb)(L:LpE a27 0 [(6,arr τ.length 0 0 n 16),(17,v),(18,N n),(19,N 0)] (τ++[[PV.arrv 0 16 (List.replicate n (wv zW))]]) (.exit 0) [(6,arr τ.length 0 0 n 16)] τ2):E 27 [v,N n] τ (.tuple [.arr τ.length 0 0 n 16,.bool true]) τ2:=by
 exact rule R27 [sp 2 (EX hv),sp 0 (Hq hv),sp 1 (IJ .i64 (show(ls.length:Int)=(n:Int) by omega)),st 2 (rC (τ:=τ) hm),sp 1 (EX hv),sp 0 (by rw[←h];exact Hq hv:AJ (.len false) [v]=some [some (N n)]),sl 1 [6,17,18,19] L]
theorem AkT{ls:List (List Int)}(hv:Dk v ws ls){A j:Nat}{w:PV}{l:List Int}{u:W}(hj:j<n)(hn:n<4000000000)(hw:ws[j]?=some w)(hwl:Ls w l)(he:v=.slice false 1 ws)(lu:u.length=16)(h:E 48 [w] τ (.tuple [wv u,.bool false]) τ):LpE a27 0 [(6,arr A 0 0 n 16),(17,v),(18,N n),(19,N j)] τ .ret [(4,nils),(5,bool false)] (τ++[(wv u).cells]):=by
 exact DR [4,5] [sp 0 (Cm .i64 (show(j:Int) < (n:Int) by omega)),sp 2 (by rw[he];exact Gb hw:AJ (.idx 1) [v,N j]=some [some (.vptr w)]),st 0 (QS τ (Eg hwl)),sp 1 (Gv hwl),sp 0 (Gv hwl),st 0 (oW h (by kernel_rfl) ⟨by simp only[AR,Bh,hwl.dis],by simp only[Bi,Cg,hwl.free];rfl,rfl⟩),sp 1 (Az1 (b:=false) lu),sp 0 (Az0 (b:=false) (w:=u)),st 1 (Zu (τ:=τ) lu)]
theorem w9{ls:List (List Int)}(hv:Dk v ws ls){A j:Nat}{w:PV}{l:List Int}{u:W}{es:List PV}{z:W}(hj:j<n)(hn:n<4000000000)(hw:ws[j]?=some w)(hwl:Ls w l)(he:v=.slice false 1 ws)(lu:u.length=16)(hA:τ[A]?=some [.arrv 0 16 es])(hz:es[j]?=some (wv z))(lz:z.length=16)(h:E 48 [w] τ (.tuple [wv u,.bool true]) τ){e:Bt}{ff1:FF}{σ1:Sto}(hnx:LpE a27 0 [(6,arr A 0 0 n 16),(17,v),(18,N n),(19,N (j+1))] ((τ++[(wv u).cells]).set A [.arrv 0 16 (es.set j (wv u))]) e ff1 σ1):LpE a27 0 [(6,arr A 0 0 n 16),(17,v),(18,N n),(19,N j)] τ e ff1 σ1:=by
 exact ER [6,17,18,19] [sp 0 (Cm .i64 (show(j:Int) < (n:Int) by omega)),sp 2 (by rw[he];exact Gb hw:AJ (.idx 1) [v,N j]=some [some (.vptr w)]),st 0 (QS τ (Eg hwl)),sp 1 (Gv hwl),sp 0 (Gv hwl),st 0 (oW h (by kernel_rfl) ⟨by simp only[AR,Bh,hwl.dis],by simp only[Bi,Cg,hwl.free];rfl,rfl⟩),sp 1 (Az1 (b:=true) lu),sp 0 (Az0 (b:=true) (w:=u)),st 1 (Zu (τ:=τ) lu),st 6 (QS (τ++[(wv u).cells]) (Vk lu Bp)),sp 0 (DX (A:=A) (size:=16) hj),st 0 (qK (Hw hA (p:=(wv u).cells)) hz lz lu),sp 0 (Di j 1 (by omega))] hnx
theorem AkS{ls:List (List Int)}(hv:Dk v ws ls){A j:Nat}(hj:¬j<n):LpE a27 0 [(6,arr A 0 0 n 16),(17,v),(18,N n),(19,N j)] τ (.exit 0) [(6,arr A 0 0 n 16)] τ:=by
 exact DR [6] [sp 0 (CY .i64 (show ¬(j:Int) < (n:Int) by omega))]
end Go.Abs.Z

namespace Go.Abs.Z
open Go.Proofs Go.RowKit
set_option linter.unusedVariables false
open Classical
theorem Q7{l:List Int}{j:Nat}{n:Nat}(hx:l[j]?=some (n:Int)):ofL (l.take (j+1))=sb (ofL (l.take j)) n:=by
 have e:l.take (j+1)=l.take j++[(n:Int)]:=by
  rw[List.take_add_one,hx];rfl
 unfold ofL;rw[e,List.foldl_append];rfl
section
variable{τ:Sto}{v:PV}{l:List Int}
theorem YO(hv:Ls v l)(hs:l.length<4000000000):∀(m j:Nat),m=l.length - j→j≤l.length→Tf l j→(ofL (l.take j)).length=16→
  (Set' l∧LpE a48 0 [(0,some v),(2,some (wv zW)),(4,some (wv (ofL (l.take j)))),(7,some v),(8,some (N l.length)),(9,some (N j))] τ (.exit 0) [(2,some (wv zW)),(4,some (wv (ofL l)))] τ) ∨
  (¬Set' l∧∃w,w.length=16∧LpE a48 0 [(0,some v),(2,some (wv zW)),(4,some (wv (ofL (l.take j)))),(7,some v),(8,some (N l.length)),(9,some (N j))] τ .ret [(2,some (wv w)),(3,some (.bool false))] τ)
 |0,j,hm,hj,hb,lw=>by
  have hjl:j=l.length:=by omega
  subst hjl;refine .inl ⟨Mj.1 hb,?_⟩
  rw[List.take_length] at lw ⊢;exact Aj8 hv lw (by omega)
 |m+1,j,hm,hj,hb,lw=>by
  have hjl:j<l.length:=by omega
  have hx:=Ad hjl;have no:¬(0≤l[j]∧l[j] < 1024∧(0<j→∀y,l[j - 1]?=some y→y<l[j]))→¬Set' l:=fun h hS=>h (Mj.2 hS j _ hjl hx)
  by_cases h1:l[j] < 0
  ·exact .inr ⟨no fun h=>by omega,_,lw,AjB hv lw hjl hs hx h1⟩
  by_cases h2:l[j]≥1024
  ·exact .inr ⟨no fun h=>by omega,_,lw,AjA hv lw hjl hs hx h1 h2⟩
  obtain⟨n,hn⟩:∃n:Nat,l[j]=(n:Int):=⟨l[j].toNat,by omega⟩
  have hxn:l[j]?=some (n:Int):=by rw[hx,hn]
  have hn2:n<1024:=by omega
  have lw':(ofL (l.take (j+1))).length=16:=by rw[Q7 hxn];exact gW lw
  by_cases h0:j=0
  ·have hb':Tf l (j+1):=fun i x hi hx'=>by
    have:i=j:=by omega
    subst this;rw[hx] at hx';cases hx';exact⟨by omega,by omega,fun h=>by omega⟩
   have ih:=YO hv hs m (j+1) (by omega) (by omega) hb' lw'
   rw[Q7 hxn] at ih;rcases ih with⟨h3,h4⟩ | ⟨h3,w,h5,h4⟩
   ·exact .inl ⟨h3,qZ hv lw hjl hs hxn hn2 h0 h4⟩
   ·exact .inr ⟨h3,w,h5,qZ hv lw hjl hs hxn hn2 h0 h4⟩
  ·have hy:l[j - 1]?=some (l[j - 1]'(by omega)):=Ad (by omega)
   by_cases h5:l[j - 1]'(by omega) < l[j]
   ·have hb':Tf l (j+1):=fun i x hi hx'=>by
     by_cases hij:i=j
     ·subst hij;rw[hx] at hx';cases hx';refine⟨by omega,by omega,fun _ y hy'=>?_⟩
      rw[hy] at hy';cases hy';exact h5
     ·exact hb i x (by omega) hx'
    have ih:=YO hv hs m (j+1) (by omega) (by omega) hb' lw'
    rw[Q7 hxn] at ih;rcases ih with⟨h3,h4⟩ | ⟨h3,w,h6,h4⟩
    ·exact .inl ⟨h3,wP hv lw hjl hs hxn hn2 (by omega) hy (by omega) h4⟩
    ·exact .inr ⟨h3,w,h6,wP hv lw hjl hs hxn hn2 (by omega) hy (by omega) h4⟩
   ·exact .inr ⟨no fun h=>h5 (h.2.2 (by omega) _ hy),_,lw,Aj9 hv lw hjl hs hx (by omega) hy ⟨by omega,by omega⟩ (by omega)⟩
theorem e48(τ:Sto)(hv:Ls v l)(hs:l.length<4000000000):(Set' l∧E 48 [v] τ (.tuple [wv (ofL l),.bool true]) τ)∨(¬Set' l∧∃w,w.length=16∧E 48 [v] τ (.tuple [wv w,.bool false]) τ):=by
 have h:=YO (τ:=τ) hv hs l.length 0 (by omega) (by omega) (fun i x hi=>by omega) Hz
 rcases h with⟨h1,h2⟩ | ⟨h1,w,h2,h3⟩
 ·exact .inl ⟨h1,AjC hv (Ql h1.2) h2⟩
 ·exact .inr ⟨h1,w,h2,AjD hv h2 h3⟩
end
def Tj(ls:List (List Int))(j:Nat):Nat→W:=fun i=>if i<j then ofL (ls.getD i []) else zW
theorem aV{ls:List (List Int)}{j:Nat}:CG (Tj ls j) j (ofL (ls.getD j []))=Tj ls (j+1):=by
 funext i
 unfold CG Tj;by_cases h:i=j
 ·subst h;rw[if_pos rfl,if_pos (by omega)]
 ·rw[if_neg h];by_cases h2:i<j
  ·rw[if_pos h2,if_pos (by omega)]
  ·rw[if_neg h2,if_neg (by omega)]
theorem VQ{ls:List (List Int)}{j:Nat}(h:∀i,i<j→Set' (ls.getD i []))(i:Nat):(Tj ls j i).length=16:=by
 unfold Tj;split
 ·exact Ql (h i ‹_›).2
 ·exact Hz
theorem Ip{ls:List (List Int)}{j:Nat}(h:j<ls.length):ls.getD j []=ls[j]:=by rw[Aj,Ad h];rfl
section
variable{v:PV}{ws:List PV}{ls:List (List Int)}{n A:Nat}
theorem kz(hv:Dk v ws ls)(hn:ls.length=n)(hs:n<4000000000)(hl:∀l∈ls,l.length<4000000000):∀(m j:Nat) (τ τ0:Sto),m=n - j→j≤n→(∀i,i<j→Set' (ls.getD i []))→AW τ A n (Tj ls j)→τ0.length≤A→Old τ0 τ→
  ∃τ',Old τ0 τ'∧((Dg ls∧AW τ' A n (Tj ls n)∧LpE a27 0 [(6,some (.arr A 0 0 n 16)),(17,some v),(18,some (N n)),(19,some (N j))] τ (.exit 0) [(6,some (.arr A 0 0 n 16))] τ') ∨
  (¬Dg ls∧LpE a27 0 [(6,some (.arr A 0 0 n 16)),(17,some v),(18,some (N n)),(19,some (N j))] τ .ret [(4,some .nils),(5,some (.bool false))] τ'))
 |0,j,τ,τ0,hm,hj,hb,hA,h0,ho=>by
  have hjn:j=n:=by omega
  subst hjn;refine⟨τ,ho,.inl ⟨fun l hl=>?_,hA,AkS hv (by omega)⟩⟩
  obtain⟨i,hi,he⟩:=List.mem_iff_getElem.1 hl;have:=hb i (by omega)
  rw[Ip hi,he] at this;exact this
 |m+1,j,τ,τ0,hm,hj,hb,hA,h0,ho=>by
  have hjn:j<n:=by omega
  have hjl:j<ls.length:=by omega
  obtain⟨w,hw,hwl,he⟩:=hv.get hjl;rcases e48 τ hwl (hl _ (AQ hjl)) with⟨h1,h2⟩ | ⟨h1,u,hu,h2⟩
  ·have lu:=Ql h1.2;have hgd:=Ip hjl;have hA1:=(AW.old hA (Old.push (o:=(wv (ofL ls[j])).cells))).set j (ofL ls[j]);rw[←hgd,aV] at hA1;have hAlen:=(Ab.1 hA).1
   obtain⟨τ',h3,h4⟩:=kz hv hn hs hl m (j+1) ((τ++[(wv (ofL ls[j])).cells]).set A [.arrv 0 16 (((List.range n).map fun i=>wv (Tj ls j i)).set j (wv (ofL ls[j])))]) τ0 (by omega) (by omega) (fun i hi=>by
    by_cases hij:i=j
    ·subst hij;rw[hgd];exact h1
    ·exact hb i (by omega)) (by rw[hgd] at hA1;exact hA1) h0 ⟨by rw[Bo];exact(ho.trans Old.push).1,fun id hid=>by
     rw[Ap (by omega)];exact(ho.trans Old.push).2 id hid⟩
   refine⟨τ',h3,?_⟩
   rcases h4 with⟨h4,h5,h6⟩ | ⟨h4,h6⟩
   ·exact .inl ⟨h4,h5,w9 hv hjn hs hw hwl he lu hA (FZ hjn) (VQ hb j) h2 h6⟩
   ·exact .inr ⟨h4,w9 hv hjn hs hw hwl he lu hA (FZ hjn) (VQ hb j) h2 h6⟩
  ·exact⟨_,ho.trans Old.push,.inr ⟨fun h=>h1 (h _ (AQ hjl)),AkT hv hjn hs hw hwl he hu h2⟩⟩
theorem e27(τ:Sto)(hv:Dk v ws ls)(n:Nat)(hs:n<4000000000)(hl:∀l∈ls,l.length<4000000000):
  ∃τ',Old τ τ'∧(((Dg ls∧ls.length=n)∧∃A,τ.length≤A∧AW τ' A n (fun i=>if i<n then ofL (ls.getD i []) else zW)∧E 27 [v,N n] τ (.tuple [.arr A 0 0 n 16,.bool true]) τ') ∨
  (¬(Dg ls∧ls.length=n)∧E 27 [v,N n] τ (.tuple [.nils,.bool false]) τ')):=by
 by_cases hn:ls.length=n
 ·have hm:n≤Cb:=by show n≤4294967296;omega
  have h0:AW (τ++[[PV.arrv 0 16 (List.replicate n (wv zW))]]) τ.length n (Tj ls 0):=by
   unfold AW;rw[Bp];congr 3;refine BH fun i=>?_
   by_cases hi:i<n
   ·rw[FZ (S:=Tj ls 0) hi,Cs,if_pos hi];rfl
   ·rw[AC (by rw[DL];omega),AC (by rw[Am,CO];omega)]
  obtain⟨τ',h3,h4⟩:=kz hv hn (by omega) hl n 0 _ τ (by omega) (by omega) (fun i hi=>by omega) h0 (Be _) Old.push
  refine⟨τ',h3,?_⟩
  rcases h4 with⟨h4,h5,h6⟩ | ⟨h4,h6⟩
  ·exact .inl ⟨⟨h4,hn⟩,τ.length,Be _,h5,AkU hv hn hm h6⟩
  ·exact .inr ⟨fun h=>h4 h.1,AkV hv hn hm h6⟩
 ·exact⟨τ,Old.rfl',.inr ⟨fun h=>hn h.2,AkW hv hn⟩⟩
end
end Go.Abs.Z

namespace Go.Abs.Z
open PV
open Go.Proofs Go.RowKit
set_option linter.unusedVariables false
set_option linter.unusedSimpArgs false
section
variable{τ:Sto}{B j n:Nat}{es:List PV}{r:PV}
theorem NE(h:Lp r):r.Ag=r:=by rcases h with rfl | ⟨_,_,_,rfl⟩<;>rfl
theorem rD(h:n≤Cb):EM pur run (.w (.mks 1 .nils)) [N n,N n] τ [some (.arr τ.length 0 0 n 1)] (τ++[[PV.arrv 0 1 (List.replicate n PV.nils)]]):=by
 refine⟨0,fun m _=>?_⟩
 show(if _ then _ else _)=_
 rw[if_pos ⟨rfl,by omega,by exact_mod_cast h,rfl,rfl⟩,Bz]
theorem sV(hB:τ[B]?=some [.arrv 0 1 es])(hz:es[j]?=some .nils)(hr:Lp r):EM pur run (.w (.st 1)) [.aptr B 0 1 j 0,r] τ [] (τ.set B [.arrv 0 1 (es.set j r)]):=by
 refine⟨0,fun n _=>?_⟩
 have hc:r.cells.length=1∧r.okc∧r.ones:=by rcases hr with rfl | ⟨_,_,_,rfl⟩<;>exact⟨rfl,rfl,rfl⟩
 have hu:upd .nils 0 r.Ag=some r:=by rcases hr with rfl | ⟨_,_,_,rfl⟩<;>rfl
 show Cq pur (run n) (.st 1) [.aptr B 0 1 j 0,r] τ=_;simp only[Cq,hB,Dq,and_self,if_true,hz,if_pos hc,hu];rfl
end
variable{τ τ2:Sto}{A n B j:Nat}
theorem R32:Rn 32 a32:=fun _ _ _=>by kernel_rfl
theorem q32(hm:n≤Cb)(L:LpE a32 0 [(0,arr A 0 0 n 16),(3,arr τ.length 0 0 n 1),(9,N n),(10,N 0)] (τ++[[PV.arrv 0 1 (List.replicate n PV.nils)]]) (.exit 0) [(3,arr τ.length 0 0 n 1)] τ2):E 32 [.arr A 0 0 n 16] τ (.arr τ.length 0 0 n 1) τ2:=by
 exact rule R32 [st 3 (rD (τ:=τ) hm),sl 4 [0,3,9,10] L]
theorem AkN{r:PV}{es:List PV}(hj:j<n)(hn:n<4000000000)(hr:Lp r)(hB:τ2[B]?=some [.arrv 0 1 es])(hz:es[j]?=some .nils)(h:E 49 [.aptr A 0 16 j 0] τ r τ2){e:Bt}{ff1:FF}{σ1:Sto}(hnx:LpE a32 0 [(0,arr A 0 0 n 16),(3,arr B 0 0 n 1),(9,N n),(10,N (j+1))] (τ2.set B [.arrv 0 1 (es.set j r)]) e ff1 σ1):LpE a32 0 [(0,arr A 0 0 n 16),(3,arr B 0 0 n 1),(9,N n),(10,N j)] τ e ff1 σ1:=by
 exact ER [0,3,9,10] [sp 0 (Cm .i64 (show(j:Int) < (n:Int) by omega)),sp 7 (DX (A:=A) (size:=16) hj),st 0 (oW h (by kernel_rfl) ⟨rfl,rfl,NE hr⟩),sp 0 (DX (A:=B) (size:=1) hj),st 0 (sV hB hz hr),sp 0 (Di j 1 (by omega))] hnx
theorem AkM(hj:¬j<n):LpE a32 0 [(0,arr A 0 0 n 16),(3,arr B 0 0 n 1),(9,N n),(10,N j)] τ (.exit 0) [(3,arr B 0 0 n 1)] τ:=by
 exact DR [3] [sp 0 (CY .i64 (show ¬(j:Int) < (n:Int) by omega))]
end Go.Abs.Z

namespace Go.Abs.Z
open Go.Proofs Go.RowKit
set_option linter.unusedVariables false
theorem Zo:∀(w:W),aX (w.map wc)=some w
 |[]=>rfl
 |X::w=>by
  rw[AR];have:=X.isLt;simp only[aX,Zo w,wc];rw[if_pos (by omega),bvW]
theorem sH{τ:Sto}{A n j:Nat}{S:Nat→W}(h:AW τ A n S)(hj:j<n)(l:(S j).length=16):wOf τ (.aptr A 0 16 j 0)=some (S j):=by
 unfold AW at h;have hg:((List.range n).map fun i=>wv (S i))[j]?=some (PV.agg ((S j).map wc)):=FZ (S:=S) hj
 simp only[wOf,h,Dq,and_self,if_true,hg,Zo,l]
theorem e49{τ:Sto}{A n j:Nat}{S:Nat→W}(h:AW τ A n S)(hj:j<n)(l:(S j).length=16):E 49 [.aptr A 0 16 j 0] τ (FP τ (lst (bit (S j)))).1 (FP τ (lst (bit (S j)))).2:=Uk 0 fun k _=>by
 have e:run (k+1) 49 [.aptr A 0 16 j 0] τ=Q0 (run k) [.aptr A 0 16 j 0] τ:=by kernel_rfl
 rw[e];simp only[Q0,sH h hj l,Ay]
def L6(τ:Sto)(v:PV)(l:List Int):Prop:=(v=.nils∧l=[])∨∃id,v=.arr id (l.length - 1) 0 l.length 1∧τ[id]?=some [.arrv (l.length - 1) 1 (l.map (PV.int .i64))]
theorem L6.old{a b:Sto}{v:PV}{l:List Int}(h:L6 a v l)(ho:Old a b):L6 b v l:=by
 rcases h with h | ⟨id,h1,h2⟩
 ·exact .inl h
 ·exact .inr ⟨id,h1,ho.get h2⟩
theorem Vs{A g n a size:Nat}(h:a<n):AJ (.idx size) [.arr A g 0 n size,N a]=some [some (.aptr A g size a 0)]:=by
 show(K7 size (.arr A g 0 n size) (N a)).map _=_;simp only[K7];rw[if_pos ⟨trivial,by omega,by omega⟩,Bz,Bc];rfl
theorem L6.rd{τ:Sto}{v:PV}{l:List Int}(h:L6 τ v l):Rd τ v l:=by
 rcases h with⟨rfl,rfl⟩ | ⟨id,rfl,h2⟩
 ·exact(show Ls .nils [] from .inr ⟨rfl,rfl⟩).rd
 ·refine⟨rfl,rfl,rfl,fun k x hx=>⟨_,Vs (Ab.1 hx).1,?_⟩⟩
  have hg:(l.map (PV.int .i64))[k]?=some (I x):=by rw[Af,hx];rfl
  simp only[BR,h2,Dq,and_self,if_true,hg];rfl
theorem mr(τ:Sto)(l:List Int):Old τ (FP τ l).2:=by
 by_cases h:l=[]
 ·subst h;exact Old.rfl'
 ·rw[MG h];exact Old.push
structure LL(τ:Sto)(v:PV)(B:Nat)(ls:List (List Int)):Prop where
 v:v=.arr B 0 0 ls.length 1
 es:∃es:List PV,τ[B]?=some [.arrv 0 1 es]∧es.length=ls.length∧∀(j:Nat) (w:PV) (l:List Int),es[j]?=some w→ls[j]?=some l→Lp w∧L6 τ w l
theorem LL.old{a b:Sto}{v:PV}{B:Nat}{ls:List (List Int)}(h:LL a v B ls)(ho:Old a b):LL b v B ls:=by
 obtain⟨h1,es,h2,h3,h4⟩:=h;exact⟨h1,es,ho.get h2,h3,fun j w l hw hl=>⟨(h4 j w l hw hl).1,(h4 j w l hw hl).2.old ho⟩⟩
theorem LL.rdd{τ:Sto}{v:PV}{B:Nat}{ls:List (List Int)}(h:LL τ v B ls):Rdd τ v ls:=by
 obtain⟨rfl,es,h2,h3,h4⟩:=h;refine⟨rfl,rfl,rfl,fun j l hl=>?_⟩
 have hj:=(Ab.1 hl).1;have hw:=Ad (l:=es) (show j<es.length by omega)
 obtain⟨h5,h6⟩:=h4 j _ _ hw hl;refine⟨_,_,DX hj,?_,h6.rd⟩
 simp only[BR,h2,Dq,and_self,if_true,hw];generalize es[j]'(by omega)=w at h5
 rcases h5 with rfl | ⟨_,_,_,rfl⟩<;>rfl
section
variable{A n B:Nat}{S:Nat→W}
structure Rw(τ:Sto)(B n:Nat)(S:Nat→W)(j:Nat)(es:List PV):Prop where
 at_:τ[B]?=some [.arrv 0 1 es]
 len:es.length=n
 done:∀i w,i<j→es[i]?=some w→Lp w∧∃id0,(w=.nils∧lst (bit (S i))=[])∨(id0≠B∧w=.arr id0 ((lst (bit (S i))).length - 1) 0 (lst (bit (S i))).length 1∧τ[id0]?=some [.arrv ((lst (bit (S i))).length - 1) 1 ((lst (bit (S i))).map (PV.int .i64))])
 todo:∀i,j≤i→i<n→es[i]?=some .nils
theorem ko(hS:∀i,(S i).length=16)(hn:n≤1024)(hAB:A≠B):∀(m j:Nat) (τ τ0:Sto) (es:List PV),m=n - j→j≤n→AW τ A n S→Rw τ B n S j es→τ0.length≤B→Old τ0 τ→
  ∃τ' es',Old τ0 τ'∧Rw τ' B n S n es'∧LpE a32 0 [(0,some (.arr A 0 0 n 16)),(3,some (.arr B 0 0 n 1)),(9,some (N n)),(10,some (N j))] τ (.exit 0) [(3,some (.arr B 0 0 n 1))] τ'
 |0,j,τ,τ0,es,hm,hj,hA,hR,h0,ho=>by
  have:j=n:=by omega
  subst this;exact⟨τ,es,ho,hR,AkM (by omega)⟩
 |m+1,j,τ,τ0,es,hm,hj,hA,hR,h0,ho=>by
  have hjn:j<n:=by omega
  have h49:=e49 hA hjn (hS j);have hBl:=(Ab.1 hR.at_).1;have hPo:=mr τ (lst (bit (S j)));have hB2:(FP τ (lst (bit (S j)))).2[B]?=some [.arrv 0 1 es]:=hPo.get hR.at_;have hBl2:=(Ab.1 hB2).1;have hf:=MH τ (lst (bit (S j)))
  obtain⟨τ',es',h1,h2,h3⟩:=ko hS hn hAB m (j+1) ((FP τ (lst (bit (S j)))).2.set B [.arrv 0 1 (es.set j (FP τ (lst (bit (S j)))).1)]) τ0 (es.set j (FP τ (lst (bit (S j)))).1) (by omega) (by omega) ((hA.old hPo).other (Ne.symm hAB))
   ⟨AP hBl2,by rw[Bo];exact hR.len,fun i w hi hw=>by
    rw[BO] at hw;by_cases hji:j=i
    ·subst hji;rw[if_pos rfl,if_pos (by rw[hR.len];exact hjn)] at hw
     have hw:=Option.some.inj hw;subst hw;refine⟨hf,τ.length,?_⟩
     by_cases he:lst (bit (S j))=[]
     ·exact .inl ⟨by rw[he];rfl,he⟩
     ·rw[MG he];exact .inr ⟨by omega,rfl,by rw[Ap (by omega)];exact Bp⟩
    ·rw[if_neg hji] at hw;obtain⟨h4,id0,h5⟩:=hR.done i w (by omega) hw
     refine⟨h4,id0,?_⟩
     rcases h5 with h5 | ⟨h5,h6,h7⟩
     ·exact .inl h5
     ·exact .inr ⟨h5,h6,by rw[Ap (Ne.symm h5)];exact hPo.get h7⟩,fun i hi hin=>by
    rw[Ap (by omega)];exact hR.todo i (by omega) hin⟩ h0
   ⟨by rw[Bo];exact(ho.trans hPo).1,fun id hid=>by rw[Ap (by omega)];exact(ho.trans hPo).2 id hid⟩
  exact⟨τ',es',h1,h2,AkN hjn (by omega) hf hB2 (hR.todo j (Be _) hjn) h49 h3⟩
theorem e32{τ:Sto}(hA:AW τ A n S)(hS:∀i,(S i).length=16)(hn:n≤1024):∃τ' v B,Old τ τ'∧LL τ' v B ((List.range n).map fun i=>lst (bit (S i)))∧E 32 [.arr A 0 0 n 16] τ v τ':=by
 have hAl:=(Ab.1 hA).1
 have hR:Rw (τ++[[PV.arrv 0 1 (List.replicate n PV.nils)]]) τ.length n S 0 (List.replicate n PV.nils):=
  ⟨Bp,DL ..,fun i w hi=>by omega,fun i _ hi=>by rw[Cs,if_pos hi]⟩
 obtain⟨τ',es,h1,h2,h3⟩:=ko hS hn (by omega) n 0 _ τ _ (by omega) (by omega) (hA.old Old.push) hR (Be _) Old.push
 refine⟨τ',_,τ.length,h1,⟨?_,es,h2.at_,?_,fun j w l hw hl=>?_⟩,q32 (by show n≤4294967296;omega) h3⟩
 ·rw[Am,CO]
 ·rw[Am,CO];exact h2.len
 ·have hjn:j<n:=by have:=(Ab.1 hw).1;rw[h2.len] at this;exact this
  rw[Af,Ck hjn] at hl;have hl:=Option.some.inj hl;subst hl;obtain⟨h4,id0,h5⟩:=h2.done j w hjn hw;refine⟨h4,?_⟩
  rcases h5 with h5 | ⟨_,h6,h7⟩
  ·exact .inl h5
  ·exact .inr ⟨id0,h6,h7⟩
end
end Go.Abs.Z

namespace Go.Abs.Z
open PV
open Go.Proofs Go.RowKit
set_option linter.unusedVariables false
set_option linter.unusedSimpArgs false
section
variable{τ:Sto}{B j n a id:Nat}{es:List PV}{r w:PV}{l:List Int}
theorem TM(h:Lp r):r.free=true:=by rcases h with rfl | ⟨_,_,_,rfl⟩<;>rfl
theorem Po(hB:τ[B]?=some [.arrv 0 1 es])(hw:es[j]?=some w)(ho:Lp w):BR (.ld 1 false) [.aptr B 0 1 j 0] τ=some [some w]:=by
 simp only[BR,hB,Dq,and_self,if_true,hw];rcases ho with rfl | ⟨_,_,_,rfl⟩<;>rfl
theorem xI(h:τ[id]?=some [.arr B 0 0 n 1]):BR (.ld 1 false) [.ref id 0] τ=some [some (.arr B 0 0 n 1)]:=by
 refine Xk ?_ rfl
 rw[h];rfl
theorem rQ{g:Nat}{k:Nat}{y:Int}(h:τ[id]?=some [.arrv g 1 (l.map (PV.int .i64))])(hy:l[k]?=some y):BR (.ld 1 false) [.aptr id g 1 k 0] τ=some [some (I y)]:=by
 have hg:(l.map (PV.int .i64))[k]?=some (I y):=by rw[Af,hy];rfl
 simp only[BR,h,Dq,and_self,if_true,hg];rfl
theorem qL(hB:τ[B]?=some [.arrv 0 1 es])(hz:es[j]?=some w)(hw:Lp w)(hr:Lp r):EM pur run (.w (.st 1)) [.aptr B 0 1 j 0,r] τ [] (τ.set B [.arrv 0 1 (es.set j r)]):=by
 refine⟨0,fun n _=>?_⟩
 have hc:r.cells.length=1∧r.okc∧r.ones:=by rcases hr with rfl | ⟨_,_,_,rfl⟩<;>exact⟨rfl,rfl,rfl⟩
 have hu:upd w 0 r.Ag=some r:=by rcases hw with rfl | ⟨_,_,_,rfl⟩<;>rcases hr with rfl | ⟨_,_,_,rfl⟩<;>rfl
 show Cq pur (run n) (.st 1) [.aptr B 0 1 j 0,r] τ=_;simp only[Cq,hB,Dq,and_self,if_true,hz,if_pos hc,hu];rfl
theorem AzI{o o2:List PV}(h:τ[B]?=some o)(hne:id≠B):(τ.set id o2)[B]?=some o:=by rw[Ap hne];exact h
theorem su:EM pur run (.w (.Fa 1)) [.nils,.slice true 1 [N a]] τ [some (.arr τ.length 0 0 1 1)] (τ++[[.arrv 0 1 [N a]]]):=by
 refine⟨0,fun n _=>?_⟩
 have hm:Cb=4294967296:=rfl;have h1:[N a].length≤Cb∧[N a].all PV.ones=true∧[N a].all PV.okc=true:=⟨by rw[hm];show 1≤4294967296;decide,rfl,rfl⟩
 show Cq pur (run n) (.Fa 1) [.nils,.slice true 1 [N a]] τ=_;simp only[Cq,Jn,if_true,Fa,Ee,Bool.false_eq_true,if_false,if_pos h1];rfl
theorem sj(h:τ[id]?=some [.arrv (l.length - 1) 1 (l.map (PV.int .i64))])(hl:0<l.length)(hm':l.length<4000000000):EM pur run (.w (.Fa 1)) [.arr id (l.length - 1) 0 l.length 1,.slice true 1 [N a]] τ [some (.arr id l.length 0 (l.length+1) 1)] (τ.set id [.arrv l.length 1 ((l++[(a:Int)]).map (PV.int .i64))]):=by
 refine⟨0,fun n _=>?_⟩
 have hm:Cb=4294967296:=rfl;have h1:l.length+[N a].length≤Cb∧[N a].all PV.ones=true∧[N a].all PV.okc=true:=⟨by rw[hm];simp;omega,rfl,rfl⟩
 have h2:Gs τ id (l.length - 1) 0 l.length 1=some (l.map (PV.int .i64)):=by
  simp only[Gs,h,Dq,if_true,and_self];rw[if_pos (by simp),CS,BC (by simp)]
 show Cq pur (run n) (.Fa 1) [.arr id (l.length - 1) 0 l.length 1,.slice true 1 [N a]] τ=_;simp only[Cq,Jn,if_true,Fa,h2,Ee,Bool.false_eq_true,if_false,if_pos h1];rw[Nat.sub_add_cancel hl,Ed];rfl
theorem ZR{v:PV}(hf:v.free=true)(hd:v.Ag=v)(t:Nat):(Gt [(t,some v)] [(t,none)]).bind Fu=some v:=by
 have e:Dm [(t,some v)] t=some v:=by simp[Dm]
 rw[Ny,e,Qh];simp only[ok_none,hf,if_true,hd];rfl
end
variable{τ:Sto}{f:PV}{B n a c x:Nat}{es:List PV}
theorem R26:Rn 26 a26:=fun _ _ _=>by kernel_rfl
theorem R28:Rn 28 a28:=fun _ _ _=>by kernel_rfl
theorem R29:Rn 29 a29:=fun _ _ _=>by kernel_rfl
theorem Av1{p:Pt}(hc:c<p.nx.length)(hcn:p.nx.length<4000000000)(hx:p.nx[c]?=some (x:Int))(hxn:x<n)(hB:τ[B]?=some [.arrv 0 1 es])(hw:es[x]?=some .nils){e:Bt}{ff1:FF}{σ1:Sto}(hnx:LpE a26 1 [(3,arr B 0 0 n 1),(4,N a),(17,f),(18,N n),(19,N a),(25,some p.v),(26,N p.nx.length),(27,N (c+1))] ((τ++[[PV.arrv 0 1 [N a]]]).set B [.arrv 0 1 (es.set x (.arr τ.length 0 0 1 1))]) e ff1 σ1):LpE a26 1 [(3,arr B 0 0 n 1),(4,N a),(17,f),(18,N n),(19,N a),(25,some p.v),(26,N p.nx.length),(27,N c)] τ e ff1 σ1:=by
 exact ER [3,4,17,18,19,25,26,27] [sp 0 (Cm .i64 (show(c:Int) < (p.nx.length:Int) by omega)),sp 1 (by rw[p.ok.CQ hx];exact Dh (o:=false) hx:AJ (.idx 1) [p.v,N c]=some [some (.vptr (N x))]),sp 4 (DX (A:=B) (size:=1) hxn),st 0 (QS τ (Po hB hw (.inl rfl))),sp 21 (DX (A:=B) (size:=1) hxn),st 0 (QS τ (Po hB hw (.inl rfl))),st 2 (su (τ:=τ) (a:=a)),sp 0 (DX (A:=B) (size:=1) hxn),st 0 (qL (j:=x) (Hw hB (p:=[PV.arrv 0 1 [N a]])) hw (.inl rfl) (r:=.arr τ.length 0 0 1 1) (.inr ⟨_,_,_,rfl⟩)),sp 0 (Di c 1 (by omega))] hnx
theorem Av2{p:Pt}(hc:c<p.nx.length)(hcn:p.nx.length<4000000000)(hx:p.nx[c]?=some (x:Int))(hxn:x<n)(hB:τ[B]?=some [.arrv 0 1 es]){id:Nat}{l:List Int}(hw:es[x]?=some (.arr id (l.length - 1) 0 l.length 1))(hid:τ[id]?=some [.arrv (l.length - 1) 1 (l.map (PV.int .i64))])(hl:0<l.length)(hlm:l.length<4000000000){y:Int}(hy:l[l.length - 1]?=some y)(hne:id≠B)(h:y≠(a:Int)){e:Bt}{ff1:FF}{σ1:Sto}(hnx:LpE a26 1 [(3,arr B 0 0 n 1),(4,N a),(17,f),(18,N n),(19,N a),(25,some p.v),(26,N p.nx.length),(27,N (c+1))] ((τ.set id [.arrv l.length 1 ((l++[(a:Int)]).map (PV.int .i64))]).set B [.arrv 0 1 (es.set x (.arr id l.length 0 (l.length+1) 1))]) e ff1 σ1):LpE a26 1 [(3,arr B 0 0 n 1),(4,N a),(17,f),(18,N n),(19,N a),(25,some p.v),(26,N p.nx.length),(27,N c)] τ e ff1 σ1:=by
 exact ER [3,4,17,18,19,25,26,27] [sp 0 (Cm .i64 (show(c:Int) < (p.nx.length:Int) by omega)),sp 1 (by rw[p.ok.CQ hx];exact Dh (o:=false) hx:AJ (.idx 1) [p.v,N c]=some [some (.vptr (N x))]),sp 4 (DX (A:=B) (size:=1) hxn),st 0 (QS τ (Po hB hw (.inr ⟨_,_,_,rfl⟩))),sp 3 (SY .i64 (show(l.length:Int)≠0 by omega)),sq 3 (DX (A:=B) (size:=1) hxn),sg 0 (QS τ (Po hB hw (.inr ⟨_,_,_,rfl⟩))),sq 1 (nu hl hlm),sq 0 (Vs (A:=id) (g:=l.length - 1) (a:=l.length - 1) (n:=l.length) (size:=1) (by omega)),sg 0 (QS τ (rQ hid hy)),sq 1 (SS .i64 h),sp 6 (DX (A:=B) (size:=1) hxn),st 0 (QS τ (Po hB hw (.inr ⟨_,_,_,rfl⟩))),st 2 (sj (a:=a) hid hl hlm),sp 0 (DX (A:=B) (size:=1) hxn),st 0 (qL (j:=x) (AzI (o2:=[.arrv l.length 1 ((l++[(a:Int)]).map (PV.int .i64))]) hB hne) hw (.inr ⟨_,_,_,rfl⟩) (r:=.arr id l.length 0 (l.length+1) 1) (.inr ⟨_,_,_,rfl⟩)),sp 0 (Di c 1 (by omega))] hnx
theorem AkZ{p:Pt}(hc:c<p.nx.length)(hcn:p.nx.length<4000000000)(hx:p.nx[c]?=some (x:Int))(hxn:x<n)(hB:τ[B]?=some [.arrv 0 1 es]){id:Nat}{l:List Int}(hw:es[x]?=some (.arr id (l.length - 1) 0 l.length 1))(hid:τ[id]?=some [.arrv (l.length - 1) 1 (l.map (PV.int .i64))])(hl:0<l.length)(hlm:l.length<4000000000){y:Int}(hy:l[l.length - 1]?=some y)(h:y=(a:Int)){e:Bt}{ff1:FF}{σ1:Sto}(hnx:LpE a26 1 [(3,arr B 0 0 n 1),(4,N a),(17,f),(18,N n),(19,N a),(25,some p.v),(26,N p.nx.length),(27,N (c+1))] τ e ff1 σ1):LpE a26 1 [(3,arr B 0 0 n 1),(4,N a),(17,f),(18,N n),(19,N a),(25,some p.v),(26,N p.nx.length),(27,N c)] τ e ff1 σ1:=by
 exact ER [3,4,17,18,19,25,26,27] [sp 0 (Cm .i64 (show(c:Int) < (p.nx.length:Int) by omega)),sp 1 (by rw[p.ok.CQ hx];exact Dh (o:=false) hx:AJ (.idx 1) [p.v,N c]=some [some (.vptr (N x))]),sp 4 (DX (A:=B) (size:=1) hxn),st 0 (QS τ (Po hB hw (.inr ⟨_,_,_,rfl⟩))),sp 3 (SY .i64 (show(l.length:Int)≠0 by omega)),sq 3 (DX (A:=B) (size:=1) hxn),sg 0 (QS τ (Po hB hw (.inr ⟨_,_,_,rfl⟩))),sq 1 (nu hl hlm),sq 0 (Vs (A:=id) (g:=l.length - 1) (a:=l.length - 1) (n:=l.length) (size:=1) (by omega)),sg 0 (QS τ (rQ hid hy)),sq 1 (IJ .i64 h),sp 2 (Di c 1 (by omega))] hnx
theorem AkY{p:Pt}(hc:¬c<p.nx.length):LpE a26 1 [(3,arr B 0 0 n 1),(4,N a),(17,f),(18,N n),(19,N a),(25,some p.v),(26,N p.nx.length),(27,N c)] τ (.exit 2) [(3,arr B 0 0 n 1),(17,f),(18,N n),(19,N a)] τ:=by
 exact DR [3,17,18,19] [sp 0 (CY .i64 (show ¬(c:Int) < (p.nx.length:Int) by omega))]
theorem Av0{ps:List Pt}(hf:Cw f ps){B n a:Nat}{p:Pt}{τ2:Sto}(hn:n=ps.length)(ha:a<n)(hs:n≤1024)(hp:ps[a]?=some p)(L:LpE a26 1 [(3,arr B 0 0 n 1),(4,N a),(17,f),(18,N n),(19,N a),(25,some p.v),(26,N p.nx.length),(27,N 0)] (τ++[[I p.k,I p.n,p.v]]) (.exit 2) [(3,arr B 0 0 n 1),(17,f),(18,N n),(19,N a)] τ2){e:Bt}{ff1:FF}{σ1:Sto}(hnx:LpE a26 0 [(3,arr B 0 0 n 1),(17,f),(18,N n),(19,N (a+1))] τ2 e ff1 σ1):LpE a26 0 [(3,arr B 0 0 n 1),(17,f),(18,N n),(19,N a)] τ e ff1 σ1:=by
 exact ER [3,17,18,19] [sp 0 (Cm .i64 (show(a:Int) < (n:Int) by omega)),sp 2 (by rw[hf.CQ hp];exact DW hp:AJ (.idx 3) [f,N a]=some [some (.vptr p.pv)]),st 0 (QS τ (aj p)),st 2 (Yh p (τ:=τ)),st 1 (QS (τ++[[I p.k,I p.n,p.v]]) (ak p Bp)),sp 0 (E8 p.ok),sl 1 [3,4,17,18,19,25,26,27] L,sp 0 (Di a 1 (by omega))] hnx
theorem AkX(ha:¬a<n):LpE a26 0 [(3,arr B 0 0 n 1),(17,f),(18,N n),(19,N a)] τ (.exit 0) [(3,arr B 0 0 n 1)] τ:=by
 exact DR [3] [sp 0 (CY .i64 (show ¬(a:Int) < (n:Int) by omega))]
theorem Av4{ps:List Pt}(hf:Cw f ps){τ1:Sto}(h:E 47 [.agg [f]] (τ++[[f]]) (.bool false) τ1):E 26 [.agg [f]] τ .nils τ1:=by
 exact rule R26 [st 0 (FN (τ:=τ) hf),st 1 (QS (τ++[[f]]) (E9 hf Bp)),st 0 (oW h (by kernel_rfl) ⟨by rcases hf with rfl | ⟨rfl,_⟩<;>rfl,rfl,rfl⟩)]
theorem Av3{ps:List Pt}(hf:Cw f ps){τ1:Sto}(h:E 47 [.agg [f]] (τ++[[f]]) (.bool true) τ1){τ2:Sto}(hi:τ1[τ.length]?=some [f])(hm:ps.length≤Cb)(L:LpE a26 0 [(3,arr τ1.length 0 0 ps.length 1),(17,f),(18,N ps.length),(19,N 0)] (τ1++[[PV.arrv 0 1 (List.replicate ps.length PV.nils)]]) (.exit 0) [(3,arr τ1.length 0 0 ps.length 1)] τ2):E 26 [.agg [f]] τ (.arr τ1.length 0 0 ps.length 1) τ2:=by
 exact rule R26 [st 0 (FN (τ:=τ) hf),st 1 (QS (τ++[[f]]) (E9 hf Bp)),st 0 (oW h (by kernel_rfl) ⟨by rcases hf with rfl | ⟨rfl,_⟩<;>rfl,rfl,rfl⟩),st 3 (QS τ1 (Dj hf hi)),sp 0 (DF hf),st 0 (rD (τ:=τ1) hm),st 2 (QS (τ1++[[PV.arrv 0 1 (List.replicate ps.length PV.nils)]]) (Dj hf (Hw hi))),sp 0 (DF hf),sl 1 [3,17,18,19] L]
theorem q28{ps:List Pt}(hf:Cw f ps){i a:Nat}{p:Pt}(hi:τ[i]?=some [f])(hp:ps[a]?=some p):E 28 [N a,.ref i 0] τ p.v τ:=by
 exact Wq R28 [st 2 (QS τ (Dj hf hi)),sp 1 (by rw[hf.CQ hp];exact DW hp:AJ (.idx 3) [f,N a]=some [some (.vptr p.pv)]),sp 0 (Gc p),st 0 (QS τ (Eg p.ok)),sp 0 (Gv p.ok)] (ZR p.ok.free p.ok.dis 3)
theorem q29{i:Nat}{w:PV}(ha:a<n)(hi:τ[i]?=some [.arr B 0 0 n 1])(hB:τ[B]?=some [.arrv 0 1 es])(hw:es[a]?=some w)(ho:Lp w):E 29 [N a,.ref i 0] τ w τ:=by
 exact Wq R29 [st 1 (QS τ (xI hi)),sp 1 (DX (A:=B) (size:=1) ha),st 0 (QS τ (Po hB hw ho)),sp 0 (NN (TM ho) (NE ho))] (ZR (TM ho) (NE ho) 3)
end Go.Abs.Z

namespace Go.Abs.Z
noncomputable section
open Go.Proofs Go.RowKit
set_option linter.unusedVariables false
open Classical
def stp(g:Nat→List Int)(x a:Nat):Nat→List Int:=if(g x)[(g x).length - 1]?=some (a:Int) then g else CG g x (g x++[(a:Int)])
theorem pX{g:Nat→List Int}{x a z:Nat}{y:Int}:y∈stp g x a z↔y∈g z∨(y=a∧x=z):=by
 unfold stp;split
 ·rename_i h;constructor
  ·exact .inl
  ·rintro(h1 | ⟨rfl,rfl⟩)
   ·exact h1
   ·exact AA h
 ·unfold CG;by_cases hz:z=x
  ·subst hz;rw[if_pos rfl];simp
  ·rw[if_neg hz];constructor
   ·exact .inl
   ·rintro(h1 | ⟨_,rfl⟩)
    ·exact h1
    ·exact absurd rfl hz
theorem W9{a z:Nat}{y:Int}:∀(l:List Int) (g:Nat→List Int),y∈(l.foldl (fun g x=>stp g x.toNat a) g) z↔y∈g z∨(y=a∧∃x∈l,x.toNat=z)
 |[],g=>by simp
 |x::l,g=>by
  rw[Cn,W9 l,pX];simp only[Av,exists_eq_or_imp];constructor
  ·rintro((h | h) | h)
   ·exact .inl h
   ·exact .inr ⟨h.1,.inl h.2⟩
   ·exact .inr ⟨h.1,.inr h.2⟩
  ·rintro(h | ⟨h,h1 | h1⟩)
   ·exact .inl (.inl h)
   ·exact .inl (.inr ⟨h,h1⟩)
   ·exact .inr ⟨h,h1⟩
def Sht(g:Nat→List Int)(a:Nat):Prop:=∀x,(g x).length≤a∨((g x).length≤a+1∧(g x)[(g x).length - 1]?=some (a:Int))
theorem Sht.stp{g:Nat→List Int}{a:Nat}(h:Sht g a)(x:Nat):Sht (stp g x a) a:=by
 unfold Z.stp;split
 ·exact h
 ·rename_i hne;intro z;unfold CG;by_cases hz:z=x
  ·subst hz;rw[if_pos rfl];rcases h z with h1 | ⟨_,h1⟩
   ·refine .inr ⟨by simp;omega,?_⟩
    simp
   ·exact absurd h1 hne
  ·rw[if_neg hz];exact h z
theorem Sht.next{g:Nat→List Int}{a:Nat}(h:Sht g a):Sht g (a+1):=fun x=>by
 rcases h x with h1 | ⟨h1,_⟩
 ·exact .inl (by omega)
 ·exact .inl h1
structure Bf(τ0 τ:Sto)(B n:Nat)(g:Nat→List Int)(es:List PV)(ids:Nat→Nat):Prop where
 at_:τ[B]?=some [.arrv 0 1 es]
 len:es.length=n
 inj:∀x y,x<n→y<n→g x≠[]→g y≠[]→ids x=ids y→x=y
 el:∀x,x<n→(g x=[]∧es[x]?=some .nils)∨(g x≠[]∧ids x≠B∧τ0.length≤ids x∧es[x]?=some (.arr (ids x) ((g x).length - 1) 0 (g x).length 1)∧τ[ids x]?=some [.arrv ((g x).length - 1) 1 ((g x).map (PV.int .i64))])
 old:Old τ0 τ
 b0:τ0.length≤B
theorem Bf.push{τ0 τ:Sto}{B n:Nat}{g:Nat→List Int}{es:List PV}{ids:Nat→Nat}(h:Bf τ0 τ B n g es ids)(o:List PV):Bf τ0 (τ++[o]) B n g es ids:=
 ⟨Hw h.at_,h.len,h.inj,fun x hx=>by
  rcases h.el x hx with h1 | ⟨h1,h2,h3,h4,h5⟩
  ·exact .inl h1
  ·exact .inr ⟨h1,h2,h3,h4,Hw h5⟩,h.old.trans Old.push,h.b0⟩
section
variable{B n a:Nat}{f:PV}{ps:List Pt}{p:Pt}{τ0:Sto}
theorem Z5(hs:n≤1024)(ha:a<n)(hcn:p.nx.length<4000000000)(hto:∀x∈p.nx,0≤x∧x<(n:Int)):∀(m c:Nat) (τ:Sto) (g:Nat→List Int) (es:List PV) (ids:Nat→Nat),m=p.nx.length - c→c≤p.nx.length→Sht g a→Bf τ0 τ B n g es ids→
  ∃τ' es' ids',Bf τ0 τ' B n ((p.nx.drop c).foldl (fun g x=>stp g x.toNat a) g) es' ids'∧Sht ((p.nx.drop c).foldl (fun g x=>stp g x.toNat a) g) a∧
   LpE a26 1 [(3,some (.arr B 0 0 n 1)),(4,some (N a)),(17,some f),(18,some (N n)),(19,some (N a)),(25,some p.v),(26,some (N p.nx.length)),(27,some (N c))] τ (.exit 2) [(3,some (.arr B 0 0 n 1)),(17,some f),(18,some (N n)),(19,some (N a))] τ'
 |0,c,τ,g,es,ids,hm,hc,hsh,hb=>by
  rw[Dw (by omega)]
  exact⟨τ,es,ids,hb,hsh,AkY (by omega)⟩
 |m+1,c,τ,g,es,ids,hm,hc,hsh,hb=>by
  have hcl:c<p.nx.length:=by omega
  have hx0:=Ad hcl;obtain⟨h1,h2⟩:=hto _ (AQ hcl);obtain⟨x,hx⟩:∃x:Nat,p.nx[c]=(x:Int):=⟨p.nx[c].toNat,by omega⟩
  have hxn:x<n:=by omega
  have hxx:p.nx[c]?=some (x:Int):=by rw[hx0,hx]
  rw[BB hcl,Cn,hx,Bz];have ih:=Z5 hs ha hcn hto m (c+1);have hsh2:=hsh.stp x;have hBl:=(Ab.1 hb.at_).1;rcases hb.el x hxn with⟨h3,h4⟩ | ⟨h3,h4,h5,h6,h7⟩
  ·have e:stp g x a=CG g x [(a:Int)]:=by
    unfold stp;rw[h3,if_neg (by simp)];rfl
   have hb2:Bf τ0 ((τ++[[PV.arrv 0 1 [N a]]]).set B [.arrv 0 1 (es.set x (.arr τ.length 0 0 1 1))]) B n (stp g x a) (es.set x (.arr τ.length 0 0 1 1)) (CG ids x τ.length):=by
    rw[e];refine⟨AP (by simp;omega),by rw[Bo];exact hb.len,fun y z hy hz gy gz hyz=>?_,fun y hy=>?_,⟨by rw[Bo];exact(hb.old.trans Old.push).1,fun id hid=>by rw[Ap (by have:=hb.b0;omega)];exact(hb.old.trans Old.push).2 id hid⟩,hb.b0⟩
    ·have hlt:∀w,w<n→w≠x→CG g x [(a:Int)] w≠[]→ids w<τ.length:=fun w hw hwx gw=>by
      unfold CG at gw;rw[if_neg hwx] at gw;rcases hb.el w hw with⟨h8,_⟩ | ⟨_,_,_,_,h8⟩
      ·exact absurd h8 gw
      ·exact(Ab.1 h8).1
     by_cases hyx:y=x
     ·by_cases hzx:z=x
      ·rw[hyx,hzx]
      ·have:=hlt z hz hzx gz;subst hyx;unfold CG at hyz;rw[if_pos rfl,if_neg hzx] at hyz;omega
     ·by_cases hzx:z=x
      ·have:=hlt y hy hyx gy;subst hzx;unfold CG at hyz;rw[if_pos rfl,if_neg hyx] at hyz;omega
      ·unfold CG at hyz gy gz;rw[if_neg hyx,if_neg hzx] at hyz;rw[if_neg hyx] at gy;rw[if_neg hzx] at gz;exact hb.inj y z hy hz gy gz hyz
    ·by_cases hyx:y=x
     ·subst hyx;unfold CG;rw[if_pos rfl,if_pos rfl];refine .inr ⟨by simp,by omega,hb.old.1,?_,?_⟩
      ·rw[AP (by rw[hb.len];exact hy)];rfl
      ·rw[Ap (by omega)];exact Bp
     ·unfold CG;rw[if_neg hyx,if_neg hyx,Ap (Ne.symm hyx)];rcases hb.el y hy with h8 | ⟨h8,h9,h10,h11,h12⟩
      ·exact .inl h8
      ·exact .inr ⟨h8,h9,h10,h11,by rw[Ap (Ne.symm h9)];exact Hw h12⟩
   obtain⟨τ',es',ids',h8,h9,h10⟩:=ih _ _ _ _ (by omega) (by omega) hsh2 hb2
   exact⟨τ',es',ids',h8,h9,Av1 hcl hcn hxx hxn hb.at_ h4 h10⟩
  ·have hl:0<(g x).length:=Ej.2 h3
   have hlm:(g x).length<4000000000:=by
    rcases hsh x with h | ⟨h,_⟩<;>omega
   have hy:(g x)[(g x).length - 1]?=some ((g x)[(g x).length - 1]'(by omega)):=Ad (by omega)
   by_cases hlast:(g x)[(g x).length - 1]'(by omega)=(a:Int)
   ·have e:stp g x a=g:=by
     unfold stp;rw[if_pos (by rw[hy,hlast])]
    rw[e];obtain⟨τ',es',ids',h8,h9,h10⟩:=ih _ _ _ _ (by omega) (by omega) hsh hb
    exact⟨τ',es',ids',h8,h9,AkZ hcl hcn hxx hxn hb.at_ h6 h7 hl hlm hy hlast h10⟩
   ·have e:stp g x a=CG g x (g x++[(a:Int)]):=by
     unfold stp;rw[if_neg (by rw[hy];exact fun h=>hlast (Option.some.inj h))]
    have hidl:=(Ab.1 h7).1
    have hb2:Bf τ0 ((τ.set (ids x) [.arrv (g x).length 1 ((g x++[(a:Int)]).map (PV.int .i64))]).set B [.arrv 0 1 (es.set x (.arr (ids x) (g x).length 0 ((g x).length+1) 1))]) B n (stp g x a) (es.set x (.arr (ids x) (g x).length 0 ((g x).length+1) 1)) ids:=by
     rw[e]
     have ge:∀w,CG g x (g x++[(a:Int)]) w≠[]→g w≠[]:=fun w hw=>by
      by_cases hwx:w=x
      ·subst hwx;exact h3
      ·unfold CG at hw;rw[if_neg hwx] at hw;exact hw
     refine⟨AP (by simp;omega),by rw[Bo];exact hb.len,fun y z hy hz gy gz hyz=>hb.inj y z hy hz (ge y gy) (ge z gz) hyz,fun y hy=>?_,⟨by rw[Bo,Bo];exact hb.old.1,fun id hid=>by
      rw[Ap (by have:=hb.b0;omega),Ap (by omega)];exact hb.old.2 id hid⟩,hb.b0⟩
     by_cases hyx:y=x
     ·subst hyx;unfold CG;rw[if_pos rfl];refine .inr ⟨by simp,h4,h5,?_,?_⟩
      ·rw[AP (by rw[hb.len];exact hxn)];simp
      ·rw[Ap (Ne.symm h4),AP hidl];simp
     ·unfold CG;rw[if_neg hyx,Ap (Ne.symm hyx)];rcases hb.el y hy with h8 | ⟨h8,h9,h10,h11,h12⟩
      ·exact .inl h8
      ·exact .inr ⟨h8,h9,h10,h11,by
        rw[Ap (Ne.symm h9),Ap fun he=>hyx (hb.inj x y hxn hy h3 h8 he).symm];exact h12⟩
    obtain⟨τ',es',ids',h8,h9,h10⟩:=ih _ _ _ _ (by omega) (by omega) hsh2 hb2
    exact⟨τ',es',ids',h8,h9,Av2 hcl hcn hxx hxn hb.at_ h6 h7 hl hlm hy h4 hlast h10⟩
def Nn(ps:List Pt)(l:List Nat)(g:Nat→List Int):Nat→List Int:=l.foldl (fun g a=>((((ps[a]?).map Pt.nx).getD []).foldl (fun g x=>stp g x.toNat a) g)) g
theorem kC(hf:Cw f ps)(hn:n=ps.length)(hs:n≤1024)(hcn:∀p∈ps,p.nx.length<4000000000)(hto:∀p∈ps,∀x∈p.nx,1≤x∧x<(ps.length:Int)):∀(m a:Nat) (τ:Sto) (g:Nat→List Int) (es:List PV) (ids:Nat→Nat),m=n - a→a≤n→Sht g a→Bf τ0 τ B n g es ids→
  ∃τ' es' ids',Bf τ0 τ' B n (Nn ps (List.range' a m) g) es' ids'∧Sht (Nn ps (List.range' a m) g) n∧LpE a26 0 [(3,some (.arr B 0 0 n 1)),(17,some f),(18,some (N n)),(19,some (N a))] τ (.exit 0) [(3,some (.arr B 0 0 n 1))] τ'
 |0,a,τ,g,es,ids,hm,ha,hsh,hb=>⟨τ,es,ids,hb,(show a=n by omega)▸hsh,AkX (by omega)⟩
 |m+1,a,τ,g,es,ids,hm,ha,hsh,hb=>by
  have han:a<n:=by omega
  have hal:a<ps.length:=by omega
  have hp:=Ad hal;have hpm:=AQ hal;obtain⟨τ1,es1,ids1,h1,h2,h3⟩:=Z5 (p:=ps[a]) (f:=f) hs han (hcn _ hpm) (fun x hx=>by have:=hto _ hpm x hx;omega) ps[a].nx.length 0 _ g es ids (by omega) (by omega) hsh (hb.push [I ps[a].k,I ps[a].n,ps[a].v])
  rw[CS] at h1 h2;obtain⟨τ2,es2,ids2,h4,h6,h5⟩:=kC hf hn hs hcn hto m (a+1) τ1 _ es1 ids1 (by omega) (by omega) h2.next h1
  refine⟨τ2,es2,ids2,?_,?_,Av0 hf hn han hs hp h3 h5⟩
  ·unfold Nn at h4 ⊢;rw[Eo,Cn,hp];exact h4
  ·unfold Nn at h6 ⊢;rw[Eo,Cn,hp];exact h6
end
theorem NP{ps:List Pt}{z:Nat}{y:Int}:∀(l:List Nat) (g:Nat→List Int),y∈Nn ps l g z↔y∈g z∨∃a∈l,y=(a:Int)∧∃x∈((ps[a]?).map Pt.nx).getD [],x.toNat=z
 |[],g=>by simp[Nn]
 |a::l,g=>by
  show y∈Nn ps l _ z↔_;rw[NP l,W9];simp only[Av,exists_eq_or_imp];rw[or_assoc]
theorem e26{τ:Sto}{f:PV}{ps:List Pt}(hf:Cw f ps)(hn:∀p∈ps,p.nx.length<4000000000):
  (¬Fj ps∧∃τ',Old τ τ'∧E 26 [.agg [f]] τ .nils τ')∨(Fj ps∧∃τ' B es ids,Bf τ τ' B ps.length (Nn ps (List.range ps.length) fun _=>[]) es ids∧Sht (Nn ps (List.range ps.length) fun _=>[]) ps.length∧E 26 [.agg [f]] τ (.arr B 0 0 ps.length 1) τ'):=by
 obtain⟨τ1,ho,h47⟩:=e47 (τ:=τ++[[f]]) hf hn;by_cases hv:Fj ps
 ·rw[decide_eq_true hv] at h47;have hi:τ1[τ.length]?=some [f]:=ho.get Bp;have hm:=hv.most
  have hb:Bf τ (τ1++[[PV.arrv 0 1 (List.replicate ps.length PV.nils)]]) τ1.length ps.length (fun _=>[]) (List.replicate ps.length PV.nils) (fun _=>0):=
   ⟨Bp,DL ..,fun x y _ _ h=>absurd rfl h,fun x hx=>.inl ⟨rfl,by rw[Cs,if_pos hx]⟩,(Old.push.trans ho).trans Old.push,(Old.push.trans ho).1⟩
  obtain⟨τ',es,ids,h1,h3,h2⟩:=kC hf rfl hm hn hv.to ps.length 0 _ _ _ _ (by omega) (by omega) (fun x=>.inl (by simp)) hb
  rw[←DU] at h1 h3;exact .inr ⟨hv,τ',_,es,ids,h1,h3,Av3 hf h47 hi (by show ps.length≤4294967296;omega) h2⟩
 ·rw[decide_eq_false hv] at h47;exact .inl ⟨hv,τ1,Old.push.trans ho,Av4 hf h47⟩
end
end Go.Abs.Z
