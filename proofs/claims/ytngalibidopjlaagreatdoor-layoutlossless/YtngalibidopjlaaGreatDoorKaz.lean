/- A part of the proof: G5 D1 W1. -/
import Derived.Test.YtngalibidopjlaaGreatDoorKaw

set_option linter.unusedVariables false
set_option linter.unusedSimpArgs false
namespace Go.Abs.Z
open Go.Proofs Go.RowKit
structure Tk where
 k:Nat
 f:Nat
 a:Nat
 e:Nat
def Tk.pv(t:Tk):PV:=.agg [N t.k,N t.f,N t.a,N t.e]
structure Dg where
 c:Nat
 a:Nat
 e:Nat
 t:List UInt8
def Dg.pv(d:Dg):PV:=.agg [N d.c,N d.a,N d.e,.str d.t,.nils]
def pc(s:List UInt8)(ls:List Tk)(k l:Nat)(wr:PV)(b:Int):List PV:=[.str s,.slice true 4 (ls.map Tk.pv),N k,N l,wr,I b]
section
variable{s:List UInt8}{ls:List Tk}{k l:Nat}{wr:PV}{b:Int}{T:Sto}
theorem subB_of{v x:PV}{off n:Nat}{ag:Bool}(h:sub v off n ag=some x):subB v off n ag=some x:=by unfold subB;rw[h]
theorem st_pc{o:Nat}{v:PV}{cs:List PV}(hw:wr.isSelf=false)(hv:v.cells.length=1∧v.okc=true∧v.ones=true)(ho:o+1≤6)(h:AxA (pc s ls k l wr b) o v.Aq0.cells=cs):
  OpEv pur run (.w (.st 1)) [.ref 0 o,v] (pc s ls k l wr b::T) [] (cs::T):=by
 have hs:(pc s ls k l wr b).any PV.isSelf=false:=by
  show(false||(false||(false||(false||(wr.isSelf||(false||false))))))=false
  rw[hw];rfl
 refine⟨0,fun n _=>?_⟩
 have hc:v.cells.length=1∧o+1≤(pc s ls k l wr b).length∧v.okc=true∧v.ones=true∧(pc s ls k l wr b).any PV.isSelf=false:=⟨hv.1,ho,hv.2.1,hv.2.2,hs⟩;show(if _ then _ else _)=_
 rw[if_pos hc,h];rfl
theorem stK(hw:wr.isSelf=false){j:Nat}:OpEv pur run (.w (.st 1)) [.ref 0 2,N j] (pc s ls k l wr b::T) [] (pc s ls j l wr b::T):=st_pc hw ⟨rfl,rfl,rfl⟩ (by omega) rfl
theorem stL(hw:wr.isSelf=false){j:Nat}:OpEv pur run (.w (.st 1)) [.ref 0 3,N j] (pc s ls k l wr b::T) [] (pc s ls k j wr b::T):=st_pc hw ⟨rfl,rfl,rfl⟩ (by omega) rfl
theorem stB(hw:wr.isSelf=false){z:Int}:OpEv pur run (.w (.st 1)) [.ref 0 5,I z] (pc s ls k l wr b::T) [] (pc s ls k l wr z::T):=st_pc hw ⟨rfl,rfl,rfl⟩ (by omega) rfl
theorem stW(hw:wr.isSelf=false){v:PV}(hv:v.cells.length=1∧v.okc=true∧v.ones=true∧v.Aq0.cells=[v]:=by exact⟨rfl,rfl,rfl,rfl⟩):OpEv pur run (.w (.st 1)) [.ref 0 4,v] (pc s ls k l wr b::T) [] (pc s ls k l v b::T):=
 st_pc hw ⟨hv.1,hv.2.1,hv.2.2.1⟩ (by omega) (by rw[hv.2.2.2];rfl)
theorem appA_nil{X:List PV}{o:Bool}{d:PV}(hd:(d.Aq0,d.ones,d.okc)=(d,true,true)):OpEv pur run (.w (.appA 5)) [.nils,.slice o 5 [d]] (X::T) [some (.arr (T.length+1) 0 0 1 5)] (X::(T++[[.arrv 0 5 [d]]])):=by
 obtain⟨h1,h2⟩:=Prod.mk.inj hd;obtain⟨h2,h3⟩:=Prod.mk.inj h2;refine⟨0,fun n _=>?_⟩
 have hx:appXA 5 (X::T) (.slice o 5 [d])=some [d]:=by simp[appXA]
 show(match appXA 5 (X::T) (.slice o 5 [d]) with | some xs=>appA 5 .nils xs (X::T) | none=>none)=_
 rw[hx];simp only[appA];rw[if_neg (by simp),if_pos ⟨by simp[AqC],by simp[h2],by simp[h3]⟩]
 simp[h1]
theorem appA_arr{X:List PV}{B:Sto}{g n:Nat}{Ds:List PV}{o:Bool}{d:PV}(hd:(d.Aq0,d.ones,d.okc)=(d,true,true))(hn:Ds.length=n)(hm:n+1≤AqC):
  OpEv pur run (.w (.appA 5)) [.arr (B.length+1) g 0 n 5,.slice o 5 [d]] (X::(B++[[.arrv g 5 Ds]])) [some (.arr (B.length+1) (g+1) 0 (n+1) 5)] (X::(B++[[.arrv (g+1) 5 (Ds++[d])]])):=by
 subst hn;obtain⟨h1,h2⟩:=Prod.mk.inj hd;obtain⟨h2,h3⟩:=Prod.mk.inj h2
 have hr:rowA (X::(B++[[.arrv g 5 Ds]])) (B.length+1) g 0 Ds.length 5=some Ds:=by
  unfold rowA;simp[arrOf]
 refine⟨0,fun n _=>?_⟩
 have hx:appXA 5 (X::(B++[[.arrv g 5 Ds]])) (.slice o 5 [d])=some [d]:=by simp[appXA]
 show(match appXA 5 (X::(B++[[PV.arrv g 5 Ds]])) (.slice o 5 [d]) with | some xs=>appA 5 (.arr (B.length+1) g 0 Ds.length 5) xs (X::(B++[[PV.arrv g 5 Ds]])) | none=>none)=_
 rw[hx];simp only[appA,if_true,hr];rw[if_neg (by simp),if_pos ⟨hm,by simp[h2],by simp[h3]⟩]
 simp[h1]
end
theorem sub_nat(j m:Nat)(h:m≤j)(hj:j<2000000000):semP (.bin .sub 0) [.int .i64 (j:Nat),.int .i64 (m:Nat)]=some [some (.int .i64 ((j - m:Nat):Int))]:=by
 apply sub_of;simp[IntKind.wrap,IntKind.bits,IntKind.signed];omega
theorem min_nat(a b:Nat):semP .min [.int .i64 (a:Nat),.int .i64 (b:Nat)]=some [some (.int .i64 ((min a b:Nat):Int))]:=by
 show some [some (PV.int .i64 (if(b:Int) < a then(b:Int) else a))]=_
 congr 4
 split<;>omega
theorem mint(a b:Int):semP .min [.int .i64 a,.int .i64 b]=some [some (.int .i64 (min a b))]:=by
 show some [some (PV.int .i64 (if b<a then b else a))]=_
 have:(if b<a then b else a)=min a b:=by rw[Int.min_def];split<;>split<;>omega
 rw[this]
theorem AjM{o:Bool}{s:Nat}{ts:List Tk}{t:Tk}(j:Nat)(h:ts[j]?=some t):semP (.idx s) [.slice o s (ts.map Tk.pv),.int .i64 (j:Nat)]=some [some (.vptr t.pv)]:=p_idx _ _ _ _ _ (by rw[List.getElem?_map,h];rfl)
theorem len_tks(o:Bool)(s:Nat)(ts:List Tk):semP (.len false) [.slice o s (ts.map Tk.pv)]=some [some (.int .i64 (ts.length:Nat))]:=by
 show some [some (PV.int .i64 ((ts.map Tk.pv).length:Nat))]=_;rw[List.length_map]
theorem AvO(T:Tr):semP (.ldl 0 5 true) [T.pv]=some [some T.pv]:=by
 have hk:=T.kp_ok;rw[Tr.pv_nd]
 have:sub (nd T.kind T.text T.st T.en T.kp) 0 5 true=some (nd T.kind T.text T.st T.en T.kp):=by
  show(if _ then _ else _)=_
  rw[if_pos]
  ·rfl
  ·refine⟨Nat.le_refl 5,?_⟩
   show(true&&(true&&(true&&(true&&(T.kp.flat&&true)))))=true;rw[hk.2.2.2];rfl
 show(subB (nd T.kind T.text T.st T.en T.kp) 0 5 true).map _=_;rw[subB_of this,Option.map_some,nd_disown hk]
theorem AwF(ts:List Tr)(U:Tr):Tr.pvs (ts++[U])=Tr.pvs ts++[U.pv]:=by rw[Tr.AjL,Tr.AjL,List.map_append];rfl
theorem app_trs{ts:List Tr}(o:Bool)(U:Tr)(h:ts.length+1≤AqC):semP (.app 5) [.slice true 5 (Tr.pvs ts),.slice o 5 [U.pv]]=some [some (.slice true 5 (Tr.pvs (ts++[U]))),some (.slice false 5 (Tr.pvs ts))]:=by
 rw[AwF];exact app_lit (by rw[Tr.AjL,List.length_map];exact h) rfl (by simp)
theorem ref_disown(a b:Nat):(PV.ref a b).Aq0=.ref a b:=rfl
theorem ref_free(a b:Nat):(PV.ref a b).free=true:=rfl
theorem fun_disown(f:FuncId)(x y:List PV):(PV.func f x y).Aq0=.func f x y:=rfl
theorem fun_free(f:FuncId)(x y:List PV):(PV.func f x y).free=true:=rfl
theorem tk_disown(t:Tk):t.pv.Aq0=t.pv:=rfl
theorem tk_free(t:Tk):t.pv.free=true:=rfl
theorem tk_flat(t:Tk):t.pv.flat=true:=rfl
theorem tk_ones(t:Tk):t.pv.ones=true:=rfl
theorem nils_one:PV.nils.one=true:=rfl
theorem okc_tr(T:Tr):T.pv.okc=true:=T.pv_okc
theorem okc_agg(l:List PV):(PV.agg l).okc=true:=rfl
theorem ok_agg(cs:List PV)(n:Nat):resOk (.agg cs) (some n)=((true&&cs.length==n)&&cs.all PV.flat):=rfl
theorem one_accd(z:Nat)(es:List PV):(accD z es).one=true:=by cases es<;>rfl
theorem one_acc(z:Nat)(es:List PV):(accP z es).one=true:=by cases es<;>rfl
attribute [simp] ok_agg one_accd one_acc
attribute [simp] ref_disown ref_free tk_disown tk_free tk_flat tk_ones nils_one fun_disown fun_free okc_tr okc_agg
theorem ldfo_acc{d:Nat}{a b c e:PV}{z:Nat}{es:List PV}:semP (.ldfo d) [.lref d 4,.agg [a,b,c,e,accP z es]]=some [some (accP z es),some (.agg [a,b,c,e,accD z es])]:=by
 show(if d=d then _ else _)=_
 rw[if_pos rfl];cases es<;>rfl
theorem stfo_acc{d:Nat}{a b c e o:PV}{z:Nat}{es:List PV}:semP (.stfo d) [.lref d 4,.agg [a,b,c,e,o],accP z es]=some [some (.agg [a,b,c,e,accP z es]),some (accD z es)]:=by
 show(if d=d then _ else _)=_
 rw[if_pos rfl];cases es<;>rfl
theorem ldl_acc{a b c e:PV}{z:Nat}{es:List PV}(h:a.flat=true∧b.flat=true∧c.flat=true∧e.flat=true∧a.own0=a∧b.own0=b∧c.own0=c∧e.own0=e:=by exact⟨rfl,rfl,rfl,rfl,rfl,rfl,rfl,rfl⟩):
  semP (.ldl 0 5 true) [.agg [a,b,c,e,accP z es]]=some [some (.agg [a,b,c,e,accD z es])]:=by
 obtain⟨h1,h2,h3,h4,h5,h6,h7,h8⟩:=h
 have hs:sub (.agg [a,b,c,e,accP z es]) 0 5 true=some (.agg [a,b,c,e,accP z es]):=by
  show(if _ then _ else _)=_
  rw[if_pos]
  ·rfl
  ·refine⟨Nat.le_refl 5,?_⟩
   show(a.flat&&(b.flat&&(c.flat&&(e.flat&&((accP z es).flat&&true)))))=true;rw[h1,h2,h3,h4,acc_flat];rfl
 show(subB (.agg [a,b,c,e,accP z es]) 0 5 true).map _=_;rw[subB_of hs];show some [some (PV.agg [a.own0,b.own0,c.own0,e.own0,(accP z es).own0])]=_;rw[h5,h6,h7,h8,own0_acc]
theorem oW{f:FuncId}{xs:List PV}{σ σ':Sto}{r:PV}(h:E f xs σ r σ')(hp:pur f=false:=by rfl)(hs:xs.map PV.Aq0=xs∧xs.all PV.free=true∧r.Aq0=r:=by first | exact⟨rfl,rfl,rfl⟩ | simp):OpEv pur run (.w (.call f)) xs σ [some r] σ':=op_wc h hp hs.1 hs.2.1 hs.2.2
abbrev r0:PV:=.ref 0 0
abbrev Z1:PV:=.agg [(I 0),(.str []),(I 0),(I 0),.nils]
abbrev Hp(x:Sto)(n m:Nat):Prop:=E 134 [r0] x (.tuple [N n,N m]) x
abbrev Hb(f:FuncId)(w:List UInt8)(x:Sto)(b:Bool)(y:Sto):Prop:=E f [r0,.str w] x (.bool b) y
abbrev Hq(f:FuncId)(w:List UInt8)(x:Sto)(y:Sto):Prop:=E f [r0,.str w] x (.tuple []) y
abbrev Hw(ws:List PV)(x:Sto)(b:Bool):Prop:=E 60 [r0,.slice false 1 ws] x (.bool b) x
abbrev Hi(n:Int)(x:Sto)(b:Bool):Prop:=E 59 [r0,I n] x (.bool b) x
abbrev Hs(f:FuncId)(x:Sto)(w:List UInt8)(y:Sto):Prop:=E f [r0] x (.str w) y
abbrev Ht(f:FuncId)(x:Sto)(U:Tr)(y:Sto):Prop:=E f [r0] x U.pv y
abbrev Hm(k:Int)(w:List UInt8)(j l:Nat)(ks:PV)(x:Sto)(U:Tr):Prop:=E 139 [r0,I k,.str w,N j,N l,ks] x U.pv x
theorem bz0(q:Sto):OpEv pur run (.p (.bsl 5)) [] q [some (.slice true 5 [])] q:=op_p (bsl_of (by simp) (by simp))
theorem bz1(q:Sto)(U:Tr):OpEv pur run (.p (.bsl 5)) [U.pv] q [some (.slice true 5 [U.pv])] q:=op_p (bsl_of (by simp) (by simp))
theorem bz2(q:Sto)(U V:Tr):OpEv pur run (.p (.bsl 5)) [U.pv,V.pv] q [some (.slice true 5 [U.pv,V.pv])] q:=op_p (bsl_of (by simp) (by simp))
theorem bz3(q:Sto)(U V W:Tr):OpEv pur run (.p (.bsl 5)) [U.pv,V.pv,W.pv] q [some (.slice true 5 [U.pv,V.pv,W.pv])] q:=op_p (bsl_of (by simp) (by simp))
theorem wm{j l:Nat}{k:Int}{w:List UInt8}{xs:List PV}{q:Sto}{U:Tr}(h:Hm k w j l (.slice false 5 xs) q U):OpEv pur run (.w (.call 139)) [r0,I k,.str w,N j,N l,.slice true 5 xs] q [some U.pv] q:=op_wc h (by rfl) (by rfl) (by rfl) (by simp)
theorem zl(q:Sto)(U:Tr):OpEv pur run (.p (.stl 0 5)) [Z1,U.pv] q [some U.pv] q:=PS q (stl_lit (I 0) (.str []) (I 0) (I 0) .nils U)
theorem rz(n:Nat)(U:Tr):(resK [(n,some U.pv)] [(n,some 5)]).bind packR=some U.pv:=by simp[AxZ,packR]
end Go.Abs.Z

namespace Go.Abs.Z
abbrev Wd:=Nat×List UInt8
inductive AT where
 |mk (kd:Nat) (tx:List UInt8) (f k:Nat) (b:Bool) (ks:List AT)
 deriving Inhabited
structure AD where
 c:Nat
 i:Nat
 t:List UInt8
inductive El where
 |fd | pa | ex
inductive NT where
 |ex (L:Nat)
 |lp (L f:Nat) (x:AT)
 |tl (e:El) (acc:List AT)
 |bk | sts (acc:List AT) | st | br | sk (f:Nat) | sp | pg (acc:List AT)
abbrev Rs:=AT×List AT
inductive Pg where
 |ret (v:Rs)
 |look (f:Wd→Wd→Nat→Pg)
 |read (p:Pg)
 |report (c:Nat) (t:List UInt8) (p:Pg)
 |call (x:NT) (f:Rs→Pg)
abbrev wRec:List UInt8:=[114,101,99,111,114,100]
abbrev wProc:List UInt8:=[112,114,111,99]
abbrev wVar:List UInt8:=[118,97,114]
abbrev wIf:List UInt8:=[105,102]
abbrev wElse:List UInt8:=[101,108,115,101]
abbrev AXT:List UInt8:=[119,104,105,108,101]
abbrev wFor:List UInt8:=[102,111,114]
abbrev wTo:List UInt8:=[116,111]
abbrev AzU:List UInt8:=[114,101,116,117,114,110]
abbrev AkM:List UInt8:=[97,115,115,101,114,116]
abbrev wAnd:List UInt8:=[97,110,100]
abbrev wOr:List UInt8:=[111,114]
abbrev wNot:List UInt8:=[110,111,116]
abbrev wTrue:List UInt8:=[116,114,117,101]
abbrev AJJ:List UInt8:=[102,97,108,115,101]
abbrev wInt:List UInt8:=[105,110,116]
abbrev wBool:List UInt8:=[98,111,111,108]
abbrev wLen:List UInt8:=[108,101,110]
abbrev wName:List UInt8:=[110,97,109,101]
abbrev wNumber:List UInt8:=[110,117,109,98,101,114]
abbrev wType:List UInt8:=[116,121,112,101]
abbrev wEnd:List UInt8:=[101,110,100]
def dgt(x:List UInt8):List UInt8:=let y:=x.dropWhile (·==48);if y=[]∧x≠[] then[48] else y
namespace Pg
def ifW(ws:List (List UInt8))(p q:Pg):Pg:=.look fun a _ _=>if ws.contains a.2 then p else q
def ifK(k:Nat)(p q:Pg):Pg:=.look fun a _ _=>if a.1=k then p else q
def mrk(g:Nat→Pg):Pg:=.look fun _ _ k=>g k
def xp(x:List UInt8)(p:Pg):Pg:=ifW [x] (.read p) (.report 4 x p)
def rd(g:List UInt8→Pg):Pg:=.look fun a _ _=>.read (g a.2)
def nm(g:List UInt8→Pg):Pg:=ifK 0 (rd g) (.report 4 wName (g []))
def num(g:List UInt8→Pg):Pg:=ifK 2 (rd fun x=>g (dgt x)) (.report 4 wNumber (g []))
def bd(kd:Nat)(tx:List UInt8)(f:Nat)(b:Bool)(ks:List AT)(g:AT→Pg):Pg:=.look fun _ _ k=>g (.mk kd tx f k b ks)
def nod(kd:Nat)(tx:List UInt8)(f:Nat)(ks:List AT):Pg:=bd kd tx f true ks fun x=>.ret (x,[])
def cl(x:NT)(g:AT→Pg):Pg:=.call x fun r=>g r.1
def lst(x:NT):Pg:=.call x .ret
def nop(g:AT→Pg):Pg:=mrk fun f=>bd 0 [] f false [] g
def miss(g:AT→Pg):Pg:=mrk fun f=>bd 1 [] f false [] g
end Pg
open Pg
def written(g:AT→Pg):Pg:=ifW [[58]] (.read (mrk fun f=>
  ifW [wInt] (.read (ifW [[91]] (.read (num fun n=>xp [93] (bd 10 n f false [] g))) (bd 9 wInt f false [] g)))
   (ifW [wBool] (.read (bd 9 wBool f false [] g)) (ifK 0 (rd fun x=>bd 9 x f false [] g) (.report 4 wType (miss g))))))
 (nop g)
def fieldP(g:AT→Pg):Pg:=mrk fun f=>nm fun x=>xp [58] (ifW [wInt,wBool] (mrk fun f2=>rd fun t=>bd 9 t f2 false [] fun y=>bd 4 x f false [y] g)
 (.report 4 wType (miss fun y=>bd 4 x f false [y] g)))
def AJT(g:AT→Pg):Pg:=mrk fun f=>ifW [wVar] (.read (nm fun x=>written fun t=>bd 8 x f false [t] g)) (nm fun x=>written fun t=>bd 7 x f false [t] g)
def elemP:El→(AT→Pg)→Pg
 |.fd=>fieldP
 |.pa=>AJT
 |.ex=>cl (.ex 1)
def listP(e:El)(g:List AT→Pg):Pg:=elemP e fun x=>.call (.tl e [x]) fun r=>g r.2
def AZ6(g:AT→Pg):Pg:=mrk fun f=>.read (nm fun x=>xp [123] (listP .fd fun l=>xp [125] (bd 3 x f false l g)))
def AZ9(g:AT→Pg):Pg:=mrk fun f=>xp [40] (ifW [[41]] (xp [41] (bd 6 [] f true [] g)) (listP .pa fun l=>xp [41] (bd 6 [] f true l g)))
def procP(g:AT→Pg):Pg:=mrk fun f=>.read (nm fun x=>AZ9 fun a=>written fun t=>cl .bk fun b=>bd 5 x f false [a,t,b] g)
def argsP(g:List AT→Pg):Pg:=.read (ifW [[41]] (xp [41] (g [])) (listP .ex fun l=>xp [41] (g l)))
def Aj4(g:AT→Pg):Pg:=mrk fun f=>nm fun x=>bd 20 x f false [] g
def AX3(g:AT→Pg):Pg:=mrk fun f=>Aj4 fun v=>ifW [[91]] (.read (cl (.ex 1) fun y=>xp [93] (bd 21 [] f false [v,y] g)))
 (ifW [[46]] (.read (nm fun x=>bd 22 x f false [v] g)) (g v))
def opL:Nat→List (List UInt8)
 |1=>[wOr]
 |2=>[wAnd]
 |4=>[[61,61],[33,61],[60],[60,61],[62],[62,61]]
 |5=>[[43],[45]]
 |6=>[[42],[47],[37]]
 |_=>[]
def lv4P:Pg:=mrk fun f=>cl (.ex 5) fun x=>ifW (opL 4) (rd fun o=>cl (.ex 5) fun y=>nod 29 o f [x,y]) (.ret (x,[]))
def primP:Pg:=mrk fun f=>
 ifK 2 (rd fun x=>nod 24 (dgt x) f [])
 (ifW [wTrue,AJJ] (rd fun x=>nod 25 x f [])
 (.look fun a b _=>if a.1=0∧b.2=[40] then rd fun x=>argsP fun l=>nod 27 x f l
  else if a.1=0 then AX3 fun x=>.ret (x,[])
  else ifW [[91]] (.read (listP .ex fun l=>xp [93] (nod 26 [] f l)))
   (ifW [wLen] (.read (xp [40] (Aj4 fun v=>xp [41] (nod 23 [] f [v]))))
   (ifW [[40]] (.read (cl (.ex 1) fun x=>xp [41] (.ret (x,[]))))
   (.report 5 [] (miss fun x=>.ret (x,[])))))))
def svP:Pg:=mrk fun f=>.read (nm fun x=>written fun t=>xp [61] (cl (.ex 1) fun v=>xp [59] (nod 12 x f [t,v])))
def whileP:Pg:=mrk fun f=>.read (cl (.ex 1) fun c=>cl .bk fun b=>nod 15 [] f [c,b])
def forP:Pg:=mrk fun f=>.read (nm fun x=>xp [61] (cl (.ex 1) fun a=>xp wTo (cl (.ex 1) fun c=>cl .bk fun b=>nod 16 x f [a,c,b])))
def begW:List (List UInt8):=[wTrue,AJJ,wNot,wLen,[45],[40],[91]]
def begE(a:Wd):Bool:=a.1==0||a.1==2||begW.contains a.2
def returnP:Pg:=mrk fun f=>.read (.look fun a _ _=>if begE a then cl (.ex 1) fun x=>xp [59] (nod 17 [] f [x]) else nop fun x=>xp [59] (nod 17 [] f [x]))
def assertP:Pg:=mrk fun f=>.read (cl (.ex 1) fun x=>xp [59] (nod 18 [] f [x]))
def simpleP:Pg:=mrk fun f=>.look fun _ b _=>if b.2=[40] then rd fun x=>argsP fun l=>xp [59] (nod 19 x f l)
 else AX3 fun x=>xp [61] (cl (.ex 1) fun y=>xp [59] (nod 13 [] f [x,y]))
def stopW:List (List UInt8):=[[125],wProc,wRec]
def stopsW:List (List UInt8):=[[125],wProc,wRec,wVar,wIf,AXT,wFor,AzU,AkM]
def prog:NT→Pg
 |.ex 3=>mrk fun f=>ifW [wNot] (.read (cl (.ex 3) fun x=>nod 28 wNot f [x])) lv4P
 |.ex 7=>mrk fun f=>ifW [[45]] (.read (cl (.ex 7) fun x=>nod 28 [45] f [x])) primP
 |.ex L=>mrk fun f=>cl (.ex (L+1)) fun x=>lst (.lp L f x)
 |.lp L f x=>ifW (opL L) (rd fun o=>cl (.ex (L+1)) fun y=>bd 29 o f false [x,y] fun z=>lst (.lp L f z)) (.ret (x,[]))
 |.tl e acc=>ifW [[44]] (.read (elemP e fun x=>lst (.tl e (acc++[x])))) (.ret (default,acc))
 |.bk=>mrk fun f=>ifW [[123]] (.read (.call (.sts []) fun r=>xp [125] (nod 11 [] f r.2))) (.report 4 [123] (bd 11 [] f false [] fun x=>.ret (x,[])))
 |.sts acc=>ifW stopW (.ret (default,acc)) (ifK 5 (.ret (default,acc)) (cl .st fun x=>lst (.sts (acc++[x]))))
 |.st=>ifW [wVar] svP (ifW [wIf] (lst .br) (ifW [AXT] whileP (ifW [wFor] forP (ifW [AzU] returnP (ifW [AkM] assertP (ifK 0 simpleP
   (.report 6 [] (mrk fun f=>.call (.sk f) fun _=>nod 1 [] f []))))))))
 |.br=>mrk fun f=>.read (cl (.ex 1) fun c=>cl .bk fun b=>ifW [wElse] (.read (ifW [wIf] (cl .br fun o=>nod 14 [] f [c,b,o]) (cl .bk fun o=>nod 14 [] f [c,b,o])))
   (nop fun o=>nod 14 [] f [c,b,o]))
 |.sk f=>ifK 5 (.ret default) (mrk fun k=>if k=f then ifW stopW (.ret default) (rd fun x=>if x=[59] then .ret default else lst (.sk f))
   else ifW stopsW (.ret default) (rd fun x=>if x=[59] then .ret default else lst (.sk f)))
 |.sp=>ifK 5 (.ret default) (ifW [wProc,wRec] (.ret default) (.read (lst .sp)))
 |.pg acc=>ifK 5 (.ret (default,acc)) (ifW [wRec] (AZ6 fun x=>lst (.pg (acc++[x]))) (ifW [wProc] (procP fun x=>lst (.pg (acc++[x])))
   (.report 7 [] (mrk fun f=>.read (.call .sp fun _=>bd 1 [] f false [] fun x=>lst (.pg (acc++[x])))))))
def rp(D:List AD)(c k:Nat)(t:List UInt8):List AD:=if D.getLast?.map AD.i=some k then D else D++[⟨c,k,t⟩]
abbrev Ans3:=Option (Rs×Nat×List AD)
section
variable(w:Nat→Wd)
def runP(c:NT→Nat→List AD→Ans3):Pg→Nat→List AD→Ans3
 |.ret v,k,D=>some (v,k,D)
 |.look f,k,D=>runP c (f (w k) (w (k+1)) k) k D
 |.read p,k,D=>if(w k).1=5 then none else runP c p (k+1) D
 |.report e t p,k,D=>runP c p k (rp D e k t)
 |.call x f,k,D=>(c x k D).bind fun r=>runP c (f r.1) r.2.1 r.2.2
def runN:Nat→NT→Nat→List AD→Ans3
 |0,_,_,_=>none
 |n+1,x,k,D=>runP w (runN n) (prog x) k D
end
end Go.Abs.Z

namespace Go.Abs.Z
open Go.Proofs Go.RowKit
variable{s s1 w s2 tx:List UInt8}{ls:List Tk}{k l j m1 fi la m2 k1 l1 q c n:Nat}{wr:PV}{bf kd bf1:Int}{T σ σ' σ1 σ2 σ3 σ4 σ5 σ6 B:Sto}{t1:Tk}{b1:Bool}{e:AExit}{ff':FF}{c2:UInt8}{us ts1:List Tr}{U1 U2 U3 U4:Tr}{es1 Ds:List PV}{g:FuncId}
theorem R47:Rn 57 a57:=fun _ _ _=>rfl
theorem r47(l1:k<2000000000)(l2:j<2000000000)(l3:1≤(ls).length)(l4:(ls).length<2000000000)(g1:(ls)[(min ((k+j)) (((ls).length - 1)))]?=some t1):E 57 [r0,(N j)] (pc s ls k l wr bf::T) (.agg [(N t1.k),(N t1.f),(N t1.a),(N t1.e)]) (pc s ls k l wr bf::T):=
 rule R47 [st 10 (PS (pc s ls k l wr bf::T) (Aq4 (k) (j) l1 l2)),st 4 (PS (pc s ls k l wr bf::T) (len_tks false 4 ls)),st 0 (PS (pc s ls k l wr bf::T) (sub_nat ((ls).length) 1 l3 l4)),st 0 (PS (pc s ls k l wr bf::T) (min_nat ((k+j)) (((ls).length - 1)))),st 0 (PS (pc s ls k l wr bf::T) (AjM (o:=false) (s:=4) ((min ((k+j)) (((ls).length - 1)))) g1))]
theorem R102:Rn 133 a133:=fun _ _ _=>rfl
theorem r102{t:Tk}(x1:semP (.ssl true true) [(.str s),(N t.a),(N t.e)]=some [some (.str s1)]):E 133 [r0,t.pv] (pc s ls k l wr bf::T) (.str s1) (pc s ls k l wr bf::T):=
 rule R102 [st 10 (PS (pc s ls k l wr bf::T) (x1))]
theorem R49:Rn 59 a59:=fun _ _ _=>rfl
theorem r49{j:Int}(h1:E 57 [r0,(I 0)] σ t1.pv σ):E 59 [r0,(I j)] σ (.bool (((t1.k:Nat):Int)==j)) σ:=
 rule R49 [st 2 (oW h1)]
theorem R50:Rn 60 a60:=fun _ _ _=>rfl
theorem r50_1{ws:List (List UInt8)}(h1:E 57 [r0,(I 0)] σ t1.pv σ)(c1:((t1.k:Nat):Int)=1)(h2:E 133 [r0,t1.pv] σ (.str s1) σ)(h3:E 132 [(.slice false 1 (ws.map PV.str)),(.str s1)] [] (.bool b1) []):E 60 [r0,(.slice false 1 (ws.map PV.str))] σ (.bool b1) σ:=
 rule R50 [st 2 (oW h1),st 4 (PS σ (AqR .i64 c1)),sg 9 (oW h2),sg 0 (oCS σ h3)]
theorem r50_2{ws:List (List UInt8)}(h1:E 57 [r0,(I 0)] σ t1.pv σ)(c1:((t1.k:Nat):Int)≠1)(c2:((t1.k:Nat):Int)=3)(h2:E 133 [r0,t1.pv] σ (.str s1) σ)(h3:E 132 [(.slice false 1 (ws.map PV.str)),(.str s1)] [] (.bool b1) []):E 60 [r0,(.slice false 1 (ws.map PV.str))] σ (.bool b1) σ:=
 rule R50 [st 2 (oW h1),st 4 (PS σ (AqB .i64 c1)),sg 3 (PS σ (AqR .i64 c2)),sg 5 (oW h2),sg 0 (oCS σ h3)]
theorem r50_3{ws:List (List UInt8)}(h1:E 57 [r0,(I 0)] σ t1.pv σ)(c1:((t1.k:Nat):Int)≠1)(c2:((t1.k:Nat):Int)≠3):E 60 [r0,(.slice false 1 (ws.map PV.str))] σ (.bool false) σ:=
 rule R50 [st 2 (oW h1),st 4 (PS σ (AqB .i64 c1)),sg 3 (PS σ (AqB .i64 c2))]
theorem R101:Rn 132 a132:=fun _ _ _=>rfl
theorem r101{ws:List (List UInt8)}{z1:Int}(h1:E 177 [(.slice false 1 (ws.map PV.str)),(.str w)] [] (I z1) []):E 132 [(.slice false 1 (ws.map PV.str)),(.str w)] [] (.bool (decide (z1≥0))) []:=
 rule R101 [st 3 (oC h1)]
theorem R137:Rn 177 a177:=fun _ _ _=>rfl
theorem r137_1{ws:List (List UInt8)}(L1:LL a177 0 [(0,some (.slice false 1 (ws.map PV.str))),(1,some (.str w)),(7,some (N ((ws).length))),(8,some (I 0))] [] (.exit 0) [(0,some (.slice false 1 (ws.map PV.str)))] []):E 177 [(.slice false 1 (ws.map PV.str)),(.str w)] [] (I (-1)) []:=
 rule R137 [st 2 (P (len_strs false 1 ws)),sl 1 [0,1,7,8] L1]
theorem r137_2{ws:List (List UInt8)}(L1:LL a177 0 [(0,some (.slice false 1 (ws.map PV.str))),(1,some (.str w)),(7,some (N ((ws).length))),(8,some (I 0))] [] .ret [(4,some (N m1))] []):E 177 [(.slice false 1 (ws.map PV.str)),(.str w)] [] (N m1) []:=
 rule R137 [st 2 (P (len_strs false 1 ws)),sl 1 [0,1,7,8] L1]
theorem r137_l0_out1{ws:List (List UInt8)}(c1:¬(m1:Int) < (((ws).length:Nat):Int)):LL a177 0 [(0,some (.slice false 1 (ws.map PV.str))),(1,some (.str w)),(7,some (N ((ws).length))),(8,some (N m1))] [] (.exit 0) [(0,some (.slice false 1 (ws.map PV.str)))] []:=
 ruleX [0] [st 0 (P (AqJ .i64 c1))]
theorem r137_l0_out2{ws:List (List UInt8)}(c1:(m1:Int) < (((ws).length:Nat):Int))(g1:(ws)[m1]?=some s1)(c2:w=s1):LL a177 0 [(0,some (.slice false 1 (ws.map PV.str))),(1,some (.str w)),(7,some (N ((ws).length))),(8,some (N m1))] [] .ret [(4,some (N m1))] []:=
 ruleX [4] [st 0 (P (Aq6 .i64 c1)),st 6 (P (idx_strs (o:=false) (s:=1) (m1) g1)),st 1 (P (AQX c2))]
theorem AwB{ws:List (List UInt8)}(c1:(m1:Int) < (((ws).length:Nat):Int))(g1:(ws)[m1]?=some s1)(c2:w≠s1)(l1:m1<2000000000)(hl:LL a177 0 [(0,some (.slice false 1 (ws.map PV.str))),(1,some (.str w)),(7,some (N ((ws).length))),(8,some (N (m1+1)))] [] e ff' σ'):LL a177 0 [(0,some (.slice false 1 (ws.map PV.str))),(1,some (.str w)),(7,some (N ((ws).length))),(8,some (N m1))] [] e ff' σ':=
 ruleN [0,1,7,8] [st 0 (P (Aq6 .i64 c1)),st 6 (P (idx_strs (o:=false) (s:=1) (m1) g1)),st 1 (P (AQY c2)),st 1 (P (Aq4 (m1) 1 l1 (by decide)))] hl
theorem R76:Rn 143 a143:=fun _ _ _=>rfl
theorem r76(hw:wr.isSelf=false){t1:Tk}{s1:List UInt8}(h1:E 57 [r0,(I 0)] (pc s ls k l wr bf::T) t1.pv (pc s ls k l wr bf::T))(l1:k<2000000000)(h2:E 133 [r0,t1.pv] (pc s ls (k+1) t1.e wr bf::T) (.str s1) (pc s ls (k+1) t1.e wr bf::T)):E 143 [r0] (pc s ls k l wr bf::T) (.str s1) (pc s ls (k+1) t1.e wr bf::T):=
 rule R76 [st 2 (oW h1),st 8 (PS (pc s ls k l wr bf::T) (Aq4 (k) 1 l1 (by decide))),st 4 (stK (by first | rfl | exact hw):OpEv pur run (.w (.st 1)) [(.ref 0 2),(N (k+1))] (pc s ls k l wr bf::T) [] (pc s ls (k+1) l wr bf::T)),st 2 (stL (by first | rfl | exact hw):OpEv pur run (.w (.st 1)) [(.ref 0 3),(N t1.e)] (pc s ls (k+1) l wr bf::T) [] (pc s ls (k+1) t1.e wr bf::T)),st 2 (oW h2)]
theorem R75:Rn 134 a134:=fun _ _ _=>rfl
theorem r75:E 134 [r0] (pc s ls k l wr bf::T) (.tuple [(N k),(N l)]) (pc s ls k l wr bf::T):=
 rule R75 []
theorem R123:Rn 178 a178:=fun _ _ _=>rfl
theorem r123_1(h1:Hw [(.str w)] σ true)(h2:Hs 143 σ s1 σ1):Hb 178 w σ true σ1:=
 rule R123 [st 4 (op_wc h1 (by rfl) (by rfl) (by rfl) (by rfl):OpEv pur run (.w (.call 60)) [r0,(.slice true 1 [(.str w)])] σ [some (.bool true)] σ),st 3 (oW h2)]
theorem r123_2(h1:Hw [(.str w)] σ false):Hb 178 w σ false σ:=
 rule R123 [st 4 (op_wc h1 (by rfl) (by rfl) (by rfl) (by rfl):OpEv pur run (.w (.call 60)) [r0,(.slice true 1 [(.str w)])] σ [some (.bool false)] σ)]
theorem R103:Rn 135 a135:=fun _ _ _=>rfl
theorem r103_1(h1:Hb 178 w σ true σ1):Hq 135 w σ σ1:=
 rule R103 [st 2 (oW h1)]
theorem r103_2(h1:Hb 178 w σ false σ1)(h2:E 63 [r0,(I 4),(.str w)] σ1 (.tuple []) σ2):Hq 135 w σ σ2:=
 rule R103 [st 2 (oW h1),st 4 (oW h2)]
theorem R104:Rn 136 a136:=fun _ _ _=>rfl
theorem r104_1(h1:Hi 0 σ true)(h2:Hs 143 σ s1 σ1):Hs 136 σ s1 σ1:=
 rule R104 [st 2 (oW h1),st 2 (oW h2)]
theorem r104_2(h1:Hi 0 σ false)(h2:E 63 [r0,(I 4),(.str [110,97,109,101])] σ (.tuple []) σ1):Hs 136 σ [] σ1:=
 rule R104 [st 2 (oW h1),st 2 (oW h2)]
theorem R140:Rn 182 a182:=fun _ _ _=>rfl
theorem r140_1(h1:Hi 2 σ true)(h2:Hs 143 σ s1 σ1)(h3:E 236 [(.str s1)] [] (.str s2) []):Hs 182 σ s2 σ1:=
 rule R140 [st 2 (oW h1),st 2 (oW h2),st 0 (oCS σ1 h3)]
theorem r140_2(h1:Hi 2 σ false)(h2:E 63 [r0,(I 4),(.str [110,117,109,98,101,114])] σ (.tuple []) σ1):Hs 182 σ [] σ1:=
 rule R140 [st 2 (oW h1),st 2 (oW h2)]
theorem R151:Rn 236 a236:=fun _ _ _=>rfl
theorem r151_1(h1:E 128 [(.str w),(.str [48])] [] (.str s1) [])(c1:s1≠[]):E 236 [(.str w)] [] (.str s1) []:=
 rule R151 [st 2 (oC h1),st 2 (P (s_neqT c1))]
theorem r151_2(h1:E 128 [(.str w),(.str [48])] [] (.str s1) [])(c1:s1=[])(c2:w=[]):E 236 [(.str w)] [] (.str s1) []:=
 rule R151 [st 2 (oC h1),st 2 (P (s_neqF c1)),sg 2 (P (AQX c2))]
theorem r151_3(h1:E 128 [(.str w),(.str [48])] [] (.str s1) [])(c1:s1=[])(c2:w≠[]):E 236 [(.str w)] [] (.str [48]) []:=
 rule R151 [st 2 (oC h1),st 2 (P (s_neqF c1)),sg 2 (P (AQY c2))]
theorem R155:Rn 128 a128:=fun _ _ _=>rfl
theorem r155_1(c1:w=[]):E 128 [(.str w),(.str [48])] [] (.str w) []:=
 rule R155 [st 2 (P (AQX c1))]
theorem r155_2(c1:w≠[])(h1:E 118 [(.str w),(.int .u8 48)] [] (.str s1) []):E 128 [(.str w),(.str [48])] [] (.str s1) []:=
 rule R155 [st 2 (P (AQY c1)),st 17 (oC h1)]
theorem R158:Rn 118 a118:=fun _ _ _=>rfl
theorem r158(L1:LL a118 0 [(0,some (.str w)),(1,some (.int .u8 48))] [] (.exit 0) [(0,some (.str s1))] []):E 118 [(.str w),(.int .u8 48)] [] (.str s1) []:=
 rule R158 [sl 1 [0,1] L1]
theorem r158_l0_out1(c1:¬(((s1).length:Nat):Int) > 0):LL a118 0 [(0,some (.str s1)),(1,some (.int .u8 48))] [] (.exit 0) [(0,some (.str s1))] []:=
 ruleX [0] [st 2 (P (Az7 .i64 c1))]
theorem r158_l0_next1(c1:(((s1).length:Nat):Int) > 0)(g1:(s1:List UInt8)[0]?=some c2)(c3:((c2.toNat:Nat):Int)=48)(x1:semP (.ssl true false) [(.str s1),(I 1)]=some [some (.str s2)])(hl:LL a118 0 [(0,some (.str s2)),(1,some (.int .u8 48))] [] e ff' σ'):LL a118 0 [(0,some (.str s1)),(1,some (.int .u8 48))] [] e ff' σ':=
 ruleN [0,1] [st 2 (P (AxO .i64 c1)),sg 2 (P (AqD _ (0) _ g1)),sg 1 (P (AqR .u8 c3)),st 3 (P (x1))] hl
theorem r158_l0_out2(c1:(((s1).length:Nat):Int) > 0)(g1:(s1:List UInt8)[0]?=some c2)(c3:((c2.toNat:Nat):Int)≠48):LL a118 0 [(0,some (.str s1)),(1,some (.int .u8 48))] [] (.exit 0) [(0,some (.str s1))] []:=
 ruleX [0] [st 2 (P (AxO .i64 c1)),sg 2 (P (AqD _ (0) _ g1)),sg 1 (P (AqB .u8 c3))]
theorem R78:Rn 139 a139:=fun _ _ _=>rfl
theorem r78n_1(c1:(k:Int) > (fi:Int))(g1:(ls)[fi]?=some t1):E 139 [r0,(I kd),(.str tx),(N fi),(N la),.nils] (pc s ls k l wr bf::T) (.agg [(I kd),(.str tx),(N t1.a),(N l),.nils]) (pc s ls k l wr bf::T):=
 rule R78 [st 14 (PS (pc s ls k l wr bf::T) (AxO .i64 c1)),st 6 (PS (pc s ls k l wr bf::T) (AjM (o:=false) (s:=4) (fi) g1))]
theorem r78n_2(c1:¬(k:Int) > (fi:Int)):E 139 [r0,(I kd),(.str tx),(N fi),(N la),.nils] (pc s ls k l wr bf::T) (.agg [(I kd),(.str tx),(N la),(N la),.nils]) (pc s ls k l wr bf::T):=
 rule R78 [st 14 (PS (pc s ls k l wr bf::T) (Az7 .i64 c1))]
theorem r78_1(c1:(k:Int) > (fi:Int))(g1:(ls)[fi]?=some t1)(c2:(((us).length:Nat):Int) > 0)(g2:(us)[0]?=some U1):E 139 [r0,(I kd),(.str tx),(N fi),(N la),(.slice false 5 (Tr.pvs us))] (pc s ls k l wr bf::T) (.agg [(I kd),(.str tx),(I (min ((t1.a:Nat):Int) U1.st)),(N l),(.slice false 5 (Tr.pvs us))]) (pc s ls k l wr bf::T):=
 rule R78 [st 14 (PS (pc s ls k l wr bf::T) (AxO .i64 c1)),st 6 (PS (pc s ls k l wr bf::T) (AjM (o:=false) (s:=4) (fi) g1)),st 11 (PS (pc s ls k l wr bf::T) (len_trs false 5 us)),st 0 (PS (pc s ls k l wr bf::T) (AxO .i64 c2)),st 4 (PS (pc s ls k l wr bf::T) (AQN (o:=false) (s:=5) (0) g2)),st 0 (PS (pc s ls k l wr bf::T) (fa_tr2 U1)),st 1 (PS (pc s ls k l wr bf::T) (mint ((t1.a:Nat):Int) U1.st))]
theorem r78_3(c1:¬(k:Int) > (fi:Int))(c2:(((us).length:Nat):Int) > 0)(g1:(us)[0]?=some U1):E 139 [r0,(I kd),(.str tx),(N fi),(N la),(.slice false 5 (Tr.pvs us))] (pc s ls k l wr bf::T) (.agg [(I kd),(.str tx),(I (min (la:Int) U1.st)),(N la),(.slice false 5 (Tr.pvs us))]) (pc s ls k l wr bf::T):=
 rule R78 [st 14 (PS (pc s ls k l wr bf::T) (Az7 .i64 c1)),st 2 (PS (pc s ls k l wr bf::T) (len_trs false 5 us)),st 0 (PS (pc s ls k l wr bf::T) (AxO .i64 c2)),st 4 (PS (pc s ls k l wr bf::T) (AQN (o:=false) (s:=5) (0) g1)),st 0 (PS (pc s ls k l wr bf::T) (fa_tr2 U1)),st 1 (PS (pc s ls k l wr bf::T) (mint (la:Int) U1.st))]
theorem R124:Rn 181 a181:=fun _ _ _=>rfl
theorem r124(h1:Hp σ m1 m2)(h2:Hm 0 [] m1 m2 .nils σ U1):Ht 181 σ U1 σ:=
 ruleO R124 [st 2 (oW h1),st 8 (oW h2),st 0 (zl σ U1)] (rz 2 U1)
theorem R138:Rn 179 a179:=fun _ _ _=>rfl
theorem r138(h1:Hp σ m1 m2)(h2:Hm 1 [] m1 m2 .nils σ U1):Ht 179 σ U1 σ:=
 ruleO R138 [st 2 (oW h1),st 8 (oW h2),st 0 (zl σ U1)] (rz 2 U1)
theorem R51:Rn 61 a61:=fun _ _ _=>rfl
theorem r51(h1:Hp σ m1 m2)(h2:Hq 135 [114,101,99,111,114,100] σ σ1)(h3:Hs 136 σ1 s1 σ2)(h4:Hq 135 [123] σ2 σ3)(h5:E 137 [r0,(.func 138 [r0] [])] σ3 (.slice false 5 (Tr.pvs ts1)) σ4)(h6:Hq 135 [125] σ4 σ5)(h7:Hm 3 s1 m1 m2 (.slice false 5 (Tr.pvs ts1)) σ5 U1):Ht 61 σ U1 σ5:=
 ruleO R51 [st 2 (oW h1),st 6 (oW h2),st 1 (oW h3),st 2 (oW h4),st 3 (oW h5),st 2 (oW h6),st 5 (oW h7),st 0 (zl σ5 U1)] (rz 2 U1)
theorem R106:Rn 138 a138:=fun _ _ _=>rfl
theorem r106_1{m3:Nat}{m4:Nat}(h1:Hp σ m1 m2)(h2:Hs 136 σ s1 σ1)(h3:Hq 135 [58] σ1 σ2)(h4:Hw [(.str [105,110,116]),(.str [98,111,111,108])] σ2 true)(h5:Hp σ2 m3 m4)(h6:Hs 143 σ2 s2 σ3)(h7:Hm 9 s2 m3 m4 .nils σ3 U1)(h8:Hm 4 s1 m1 m2 (.slice false 5 [U1.pv]) σ3 U2):Ht 138 σ U2 σ3:=
 ruleO R106 [st 2 (oW h1),st 6 (oW h2),st 2 (oW h3),st 2 (op_wc h4 (by rfl) (by rfl) (by rfl) (by rfl):OpEv pur run (.w (.call 60)) [r0,(.slice true 1 [(.str [105,110,116]),(.str [98,111,111,108])])] σ2 [some (.bool true)] σ2),st 2 (oW h5),st 6 (oW h6),st 9 (oW h7),st 0 (bz1 σ3 U1),st 0 (wm h8),st 0 (zl σ3 U2)] (rz 2 U2)
theorem r106_2(h1:Hp σ m1 m2)(h2:Hs 136 σ s1 σ1)(h3:Hq 135 [58] σ1 σ2)(h4:Hw [(.str [105,110,116]),(.str [98,111,111,108])] σ2 false)(h5:E 63 [r0,(I 4),(.str [116,121,112,101])] σ2 (.tuple []) σ3)(h6:Ht 179 σ3 U1 σ3)(h7:Hm 4 s1 m1 m2 (.slice false 5 [U1.pv]) σ3 U2):Ht 138 σ U2 σ3:=
 ruleO R106 [st 2 (oW h1),st 6 (oW h2),st 2 (oW h3),st 2 (op_wc h4 (by rfl) (by rfl) (by rfl) (by rfl):OpEv pur run (.w (.call 60)) [r0,(.slice true 1 [(.str [105,110,116]),(.str [98,111,111,108])])] σ2 [some (.bool false)] σ2),st 2 (oW h5),st 1 (oW h6),st 1 (PS σ3 (AqN U1)),st 4 (QS σ3 (ld_tr U1)),st 0 (bz1 σ3 U1),st 0 (wm h7),st 0 (zl σ3 U2)] (rz 2 U2)
theorem R52:Rn 62 a62:=fun _ _ _=>rfl
theorem r52(h1:Hp σ m1 m2)(h2:Hq 135 [112,114,111,99] σ σ1)(h3:Hs 136 σ1 s1 σ2)(h4:Ht 140 σ2 U1 σ3)(h5:Ht 141 σ3 U2 σ4)(h6:Ht 142 σ4 U3 σ5)(h7:Hm 5 s1 m1 m2 (.slice false 5 [U1.pv,U2.pv,U3.pv]) σ5 U4):Ht 62 σ U4 σ5:=
 ruleO R52 [st 2 (oW h1),st 6 (oW h2),st 1 (oW h3),st 2 (oW h4),st 1 (PS σ3 (AqN U1)),st 1 (oW h5),st 1 (PS σ4 (AqN U2)),st 1 (oW h6),st 1 (PS σ5 (AqN U3)),st 4 (QS σ5 (ld_tr U1)),st 0 (QS σ5 (ld_tr U2)),st 0 (QS σ5 (ld_tr U3)),st 0 (bz3 σ5 U1 U2 U3),st 0 (wm h7),st 0 (zl σ5 U4)] (rz 2 U4)
theorem R107:Rn 140 a140:=fun _ _ _=>rfl
theorem r107_1(h1:Hp σ m1 m2)(h2:Hq 135 [40] σ σ1)(h3:Hw [(.str [41])] σ1 true)(h4:Hq 135 [41] σ1 σ2)(h5:Hm 6 [] m1 m2 .nils σ2 U1):Ht 140 σ U1 σ2:=
 ruleO R107 [st 2 (oW h1),st 6 (oW h2),st 3 (op_wc h3 (by rfl) (by rfl) (by rfl) (by rfl):OpEv pur run (.w (.call 60)) [r0,(.slice true 1 [(.str [41])])] σ1 [some (.bool true)] σ1),st 3 (oW h4),st 4 (oW h5),st 0 (zl σ2 U1)] (rz 2 U1)
theorem r107_2(h1:Hp σ m1 m2)(h2:Hq 135 [40] σ σ1)(h3:Hw [(.str [41])] σ1 false)(h4:E 137 [r0,(.func 180 [r0] [])] σ1 (.slice false 5 (Tr.pvs ts1)) σ2)(h5:Hq 135 [41] σ2 σ3)(h6:Hm 6 [] m1 m2 (.slice false 5 (Tr.pvs ts1)) σ3 U1):Ht 140 σ U1 σ3:=
 ruleO R107 [st 2 (oW h1),st 6 (oW h2),st 3 (op_wc h3 (by rfl) (by rfl) (by rfl) (by rfl):OpEv pur run (.w (.call 60)) [r0,(.slice true 1 [(.str [41])])] σ1 [some (.bool false)] σ1),st 5 (oW h4),st 2 (oW h5),st 4 (oW h6),st 0 (zl σ3 U1)] (rz 2 U1)
theorem R139:Rn 180 a180:=fun _ _ _=>rfl
theorem r139_1(h1:Hp σ m1 m2)(h2:Hb 178 [118,97,114] σ true σ1)(h3:Hs 136 σ1 s1 σ2)(h4:Ht 141 σ2 U1 σ3)(h5:Hm 8 s1 m1 m2 (.slice false 5 [U1.pv]) σ3 U2):Ht 180 σ U2 σ3:=
 ruleO R139 [st 2 (oW h1),st 7 (oW h2),st 3 (oW h3),st 2 (oW h4),st 1 (PS σ3 (AqN U1)),st 5 (QS σ3 (ld_tr U1)),st 0 (bz1 σ3 U1),st 0 (wm h5),st 0 (zl σ3 U2)] (rz 2 U2)
theorem r139_2(h1:Hp σ m1 m2)(h2:Hb 178 [118,97,114] σ false σ1)(h3:Hs 136 σ1 s1 σ2)(h4:Ht 141 σ2 U1 σ3)(h5:Hm 7 s1 m1 m2 (.slice false 5 [U1.pv]) σ3 U2):Ht 180 σ U2 σ3:=
 ruleO R139 [st 2 (oW h1),st 7 (oW h2),st 2 (oW h3),st 2 (oW h4),st 1 (PS σ3 (AqN U1)),st 5 (QS σ3 (ld_tr U1)),st 0 (bz1 σ3 U1),st 0 (wm h5),st 0 (zl σ3 U2)] (rz 2 U2)
theorem R108:Rn 141 a141:=fun _ _ _=>rfl
theorem r108_1(h1:Hb 178 [58] σ false σ1)(h2:Ht 181 σ1 U1 σ1):Ht 141 σ U1 σ1:=
 ruleO R108 [st 2 (oW h1),st 3 (oW h2),st 0 (zl σ1 U1)] (rz 2 U1)
theorem r108_2(h1:Hb 178 [58] σ true σ1)(h2:Hp σ1 m1 m2)(h3:Hb 178 [105,110,116] σ1 true σ2)(h4:Hb 178 [91] σ2 true σ3)(h5:Hs 182 σ3 s1 σ4)(h6:Hq 135 [93] σ4 σ5)(h7:Hm 10 s1 m1 m2 .nils σ5 U1):Ht 141 σ U1 σ5:=
 ruleO R108 [st 2 (oW h1),st 3 (oW h2),st 6 (oW h3),st 3 (oW h4),st 3 (oW h5),st 2 (oW h6),st 4 (oW h7),st 0 (zl σ5 U1)] (rz 2 U1)
theorem r108_3(h1:Hb 178 [58] σ true σ1)(h2:Hp σ1 m1 m2)(h3:Hb 178 [105,110,116] σ1 true σ2)(h4:Hb 178 [91] σ2 false σ3)(h5:Hm 9 [105,110,116] m1 m2 .nils σ3 U1):Ht 141 σ U1 σ3:=
 ruleO R108 [st 2 (oW h1),st 3 (oW h2),st 6 (oW h3),st 3 (oW h4),st 5 (oW h5),st 0 (zl σ3 U1)] (rz 2 U1)
theorem r108_4(h1:Hb 178 [58] σ true σ1)(h2:Hp σ1 m1 m2)(h3:Hb 178 [105,110,116] σ1 false σ2)(h4:Hb 178 [98,111,111,108] σ2 true σ3)(h5:Hm 9 [98,111,111,108] m1 m2 .nils σ3 U1):Ht 141 σ U1 σ3:=
 ruleO R108 [st 2 (oW h1),st 3 (oW h2),st 6 (oW h3),st 3 (oW h4),st 5 (oW h5),st 0 (zl σ3 U1)] (rz 2 U1)
theorem r108_5(h1:Hb 178 [58] σ true σ1)(h2:Hp σ1 m1 m2)(h3:Hb 178 [105,110,116] σ1 false σ2)(h4:Hb 178 [98,111,111,108] σ2 false σ3)(h5:Hi 0 σ3 true)(h6:Hs 143 σ3 s1 σ4)(h7:Hm 9 s1 m1 m2 .nils σ4 U1):Ht 141 σ U1 σ4:=
 ruleO R108 [st 2 (oW h1),st 3 (oW h2),st 6 (oW h3),st 3 (oW h4),st 3 (oW h5),st 3 (oW h6),st 5 (oW h7),st 0 (zl σ4 U1)] (rz 2 U1)
theorem r108_6(h1:Hb 178 [58] σ true σ1)(h2:Hp σ1 m1 m2)(h3:Hb 178 [105,110,116] σ1 false σ2)(h4:Hb 178 [98,111,111,108] σ2 false σ3)(h5:Hi 0 σ3 false)(h6:E 63 [r0,(I 4),(.str [116,121,112,101])] σ3 (.tuple []) σ4)(h7:Ht 179 σ4 U1 σ4):Ht 141 σ U1 σ4:=
 ruleO R108 [st 2 (oW h1),st 3 (oW h2),st 6 (oW h3),st 3 (oW h4),st 3 (oW h5),st 3 (oW h6),st 1 (oW h7),st 0 (zl σ4 U1)] (rz 2 U1)
theorem R82:Rn 243 a243:=fun _ _ _=>rfl
theorem r82(h1:Hw [(.str [125]),(.str [112,114,111,99]),(.str [114,101,99,111,114,100]),(.str [118,97,114]),(.str [105,102]),(.str [119,104,105,108,101]),(.str [102,111,114]),(.str [114,101,116,117,114,110]),(.str [97,115,115,101,114,116])] σ b1):E 243 [r0] σ (.bool b1) σ:=
 rule R82 [st 3 (op_wc h1 (by rfl) (by rfl) (by rfl) (by rfl):OpEv pur run (.w (.call 60)) [r0,(.slice true 1 [(.str [125]),(.str [112,114,111,99]),(.str [114,101,99,111,114,100]),(.str [118,97,114]),(.str [105,102]),(.str [119,104,105,108,101]),(.str [102,111,114]),(.str [114,101,116,117,114,110]),(.str [97,115,115,101,114,116])])] σ [some (.bool b1)] σ)]
theorem R73:Rn 237 a237:=fun _ _ _=>rfl
theorem r73(h1:Hp σ m1 m2)(h2:Hq 135 [118,97,114] σ σ1)(h3:Hs 136 σ1 s1 σ2)(h4:Ht 141 σ2 U1 σ3)(h5:Hq 135 [61] σ3 σ4)(h6:Ht 239 σ4 U2 σ5)(h7:Hq 135 [59] σ5 σ6)(h8:Hm 12 s1 m1 m2 (.slice false 5 [U1.pv,U2.pv]) σ6 U3):Ht 237 σ U3 σ6:=
 ruleO R73 [st 2 (oW h1),st 6 (oW h2),st 1 (oW h3),st 2 (oW h4),st 1 (PS σ3 (AqN U1)),st 1 (oW h5),st 1 (oW h6),st 1 (PS σ5 (AqN U2)),st 1 (oW h7),st 4 (QS σ6 (ld_tr U1)),st 0 (QS σ6 (ld_tr U2)),st 0 (bz2 σ6 U1 U2),st 0 (wm h8),st 0 (zl σ6 U3)] (rz 2 U3)
theorem R74:Rn 238 a238:=fun _ _ _=>rfl
theorem r74_1(h1:Hp σ m1 m2)(h2:Hq 135 [105,102] σ σ1)(h3:Ht 239 σ1 U1 σ2)(h4:Ht 142 σ2 U2 σ3)(h5:Hb 178 [101,108,115,101] σ3 false σ4)(h6:Ht 181 σ4 U3 σ4)(h7:Hm 14 [] m1 m2 (.slice false 5 [U1.pv,U2.pv,U3.pv]) σ4 U4):Ht 238 σ U4 σ4:=
 ruleO R74 [st 2 (oW h1),st 6 (oW h2),st 1 (oW h3),st 1 (PS σ2 (AqN U1)),st 1 (oW h4),st 1 (PS σ3 (AqN U2)),st 2 (oW h5),st 4 (oW h6),st 0 (zl σ4 U3),st 3 (QS σ4 (ld_tr U1)),st 0 (QS σ4 (ld_tr U2)),st 0 (PS σ4 (AvO U3)),st 0 (bz3 σ4 U1 U2 U3),st 0 (wm h7),st 0 (zl σ4 U4)] (rz 2 U4)
theorem r74_2(h1:Hp σ m1 m2)(h2:Hq 135 [105,102] σ σ1)(h3:Ht 239 σ1 U1 σ2)(h4:Ht 142 σ2 U2 σ3)(h5:Hb 178 [101,108,115,101] σ3 true σ4)(h6:Hw [(.str [105,102])] σ4 true)(h7:Ht 238 σ4 U3 σ5)(h8:Hm 14 [] m1 m2 (.slice false 5 [U1.pv,U2.pv,U3.pv]) σ5 U4):Ht 238 σ U4 σ5:=
 ruleO R74 [st 2 (oW h1),st 6 (oW h2),st 1 (oW h3),st 1 (PS σ2 (AqN U1)),st 1 (oW h4),st 1 (PS σ3 (AqN U2)),st 2 (oW h5),st 5 (op_wc h6 (by rfl) (by rfl) (by rfl) (by rfl):OpEv pur run (.w (.call 60)) [r0,(.slice true 1 [(.str [105,102])])] σ4 [some (.bool true)] σ4),st 3 (oW h7),st 0 (zl σ5 U3),st 3 (QS σ5 (ld_tr U1)),st 0 (QS σ5 (ld_tr U2)),st 0 (PS σ5 (AvO U3)),st 0 (bz3 σ5 U1 U2 U3),st 0 (wm h8),st 0 (zl σ5 U4)] (rz 2 U4)
theorem r74_3(h1:Hp σ m1 m2)(h2:Hq 135 [105,102] σ σ1)(h3:Ht 239 σ1 U1 σ2)(h4:Ht 142 σ2 U2 σ3)(h5:Hb 178 [101,108,115,101] σ3 true σ4)(h6:Hw [(.str [105,102])] σ4 false)(h7:Ht 142 σ4 U3 σ5)(h8:Hm 14 [] m1 m2 (.slice false 5 [U1.pv,U2.pv,U3.pv]) σ5 U4):Ht 238 σ U4 σ5:=
 ruleO R74 [st 2 (oW h1),st 6 (oW h2),st 1 (oW h3),st 1 (PS σ2 (AqN U1)),st 1 (oW h4),st 1 (PS σ3 (AqN U2)),st 2 (oW h5),st 5 (op_wc h6 (by rfl) (by rfl) (by rfl) (by rfl):OpEv pur run (.w (.call 60)) [r0,(.slice true 1 [(.str [105,102])])] σ4 [some (.bool false)] σ4),st 3 (oW h7),st 0 (zl σ5 U3),st 3 (QS σ5 (ld_tr U1)),st 0 (QS σ5 (ld_tr U2)),st 0 (PS σ5 (AvO U3)),st 0 (bz3 σ5 U1 U2 U3),st 0 (wm h8),st 0 (zl σ5 U4)] (rz 2 U4)
theorem R79:Rn 240 a240:=fun _ _ _=>rfl
theorem r79{σ7:Sto}(h1:Hp σ m1 m2)(h2:Hq 135 [102,111,114] σ σ1)(h3:Hs 136 σ1 s1 σ2)(h4:Hq 135 [61] σ2 σ3)(h5:Ht 239 σ3 U1 σ4)(h6:Hq 135 [116,111] σ4 σ5)(h7:Ht 239 σ5 U2 σ6)(h8:Ht 142 σ6 U3 σ7)(h9:Hm 16 s1 m1 m2 (.slice false 5 [U1.pv,U2.pv,U3.pv]) σ7 U4):Ht 240 σ U4 σ7:=
 ruleO R79 [st 2 (oW h1),st 6 (oW h2),st 1 (oW h3),st 2 (oW h4),st 1 (oW h5),st 1 (PS σ4 (AqN U1)),st 1 (oW h6),st 1 (oW h7),st 1 (PS σ6 (AqN U2)),st 1 (oW h8),st 1 (PS σ7 (AqN U3)),st 4 (QS σ7 (ld_tr U1)),st 0 (QS σ7 (ld_tr U2)),st 0 (QS σ7 (ld_tr U3)),st 0 (bz3 σ7 U1 U2 U3),st 0 (wm h9),st 0 (zl σ7 U4)] (rz 2 U4)
theorem R80:Rn 241 a241:=fun _ _ _=>rfl
theorem r80_1(h1:Hp σ m1 m2)(h2:Hw [(.str [114,101,116,117,114,110])] σ false)(h3:Hs 143 σ s1 σ1)(h4:Ht 239 σ1 U1 σ2)(h5:Hq 135 [59] σ2 σ3)(h6:Hm 18 [] m1 m2 (.slice false 5 [U1.pv]) σ3 U2):Ht 241 σ U2 σ3:=
 ruleO R80 [st 2 (oW h1),st 8 (op_wc h2 (by rfl) (by rfl) (by rfl) (by rfl):OpEv pur run (.w (.call 60)) [r0,(.slice true 1 [(.str [114,101,116,117,114,110])])] σ [some (.bool false)] σ),st 2 (oW h3),st 10 (oW h4),st 0 (zl σ2 U1),st 1 (oW h5),st 4 (PS σ3 (AvO U1)),st 0 (bz1 σ3 U1),st 0 (wm h6),st 0 (zl σ3 U2)] (rz 2 U2)
theorem r80_2(h1:Hp σ m1 m2)(h2:Hw [(.str [114,101,116,117,114,110])] σ true)(h3:Hs 143 σ s1 σ1)(h4:E 266 [r0] σ1 (.bool true) σ1)(h5:Ht 239 σ1 U1 σ2)(h6:Hq 135 [59] σ2 σ3)(h7:Hm 17 [] m1 m2 (.slice false 5 [U1.pv]) σ3 U2):Ht 241 σ U2 σ3:=
 ruleO R80 [st 2 (oW h1),st 8 (op_wc h2 (by rfl) (by rfl) (by rfl) (by rfl):OpEv pur run (.w (.call 60)) [r0,(.slice true 1 [(.str [114,101,116,117,114,110])])] σ [some (.bool true)] σ),st 3 (oW h3),sg 5 (oW h4),st 4 (oW h5),st 0 (zl σ2 U1),st 1 (oW h6),st 4 (PS σ3 (AvO U1)),st 0 (bz1 σ3 U1),st 0 (wm h7),st 0 (zl σ3 U2)] (rz 2 U2)
theorem r80_3(h1:Hp σ m1 m2)(h2:Hw [(.str [114,101,116,117,114,110])] σ true)(h3:Hs 143 σ s1 σ1)(h4:E 266 [r0] σ1 (.bool false) σ1)(h5:Ht 181 σ1 U1 σ1)(h6:Hq 135 [59] σ1 σ2)(h7:Hm 17 [] m1 m2 (.slice false 5 [U1.pv]) σ2 U2):Ht 241 σ U2 σ2:=
 ruleO R80 [st 2 (oW h1),st 8 (op_wc h2 (by rfl) (by rfl) (by rfl) (by rfl):OpEv pur run (.w (.call 60)) [r0,(.slice true 1 [(.str [114,101,116,117,114,110])])] σ [some (.bool true)] σ),st 3 (oW h3),sg 5 (oW h4),st 4 (oW h5),st 0 (zl σ1 U1),st 1 (oW h6),st 4 (PS σ2 (AvO U1)),st 0 (bz1 σ2 U1),st 0 (wm h7),st 0 (zl σ2 U2)] (rz 2 U2)
theorem R125:Rn 266 a266:=fun _ _ _=>rfl
theorem r125_1(h1:Hi 0 σ true):E 266 [r0] σ (.bool true) σ:=
 rule R125 [st 2 (oW h1)]
theorem r125_2(h1:Hi 0 σ false)(h2:Hi 2 σ true):E 266 [r0] σ (.bool true) σ:=
 rule R125 [st 2 (oW h1),sg 2 (oW h2)]
theorem r125_3(h1:Hi 0 σ false)(h2:Hi 2 σ false)(h3:Hw [(.str [116,114,117,101]),(.str [102,97,108,115,101]),(.str [110,111,116]),(.str [108,101,110]),(.str [45]),(.str [40]),(.str [91])] σ b1):E 266 [r0] σ (.bool b1) σ:=
 rule R125 [st 2 (oW h1),sg 2 (oW h2),sg 4 (op_wc h3 (by rfl) (by rfl) (by rfl) (by rfl):OpEv pur run (.w (.call 60)) [r0,(.slice true 1 [(.str [116,114,117,101]),(.str [102,97,108,115,101]),(.str [110,111,116]),(.str [108,101,110]),(.str [45]),(.str [40]),(.str [91])])] σ [some (.bool b1)] σ)]
theorem R81:Rn 242 a242:=fun _ _ _=>rfl
theorem r81_1(h1:Hp σ m1 m2)(h2:Hb 267 [40] σ false σ)(h3:Ht 269 σ U1 σ1)(h4:Hq 135 [61] σ1 σ2)(h5:Ht 239 σ2 U2 σ3)(h6:Hq 135 [59] σ3 σ4)(h7:Hm 13 [] m1 m2 (.slice false 5 [U1.pv,U2.pv]) σ4 U3):Ht 242 σ U3 σ4:=
 ruleO R81 [st 2 (oW h1),st 6 (oW h2),st 2 (oW h3),st 1 (PS σ1 (AqN U1)),st 1 (oW h4),st 1 (oW h5),st 1 (PS σ3 (AqN U2)),st 1 (oW h6),st 3 (QS σ4 (ld_tr U1)),st 0 (QS σ4 (ld_tr U2)),st 0 (bz2 σ4 U1 U2),st 0 (wm h7),st 0 (zl σ4 U3)] (rz 2 U3)
theorem r81_2(h1:Hp σ m1 m2)(h2:Hb 267 [40] σ true σ)(h3:Hs 143 σ s1 σ1)(h4:E 268 [r0] σ1 .nils σ2)(h5:Hq 135 [59] σ2 σ3)(h6:Hm 19 s1 m1 m2 .nils σ3 U1):Ht 242 σ U1 σ3:=
 ruleO R81 [st 2 (oW h1),st 6 (oW h2),st 2 (oW h3),st 2 (oW h4),st 2 (oW h5),st 5 (oW h6),st 0 (zl σ3 U1)] (rz 2 U1)
theorem r81_3(h1:Hp σ m1 m2)(h2:Hb 267 [40] σ true σ)(h3:Hs 143 σ s1 σ1)(h4:E 268 [r0] σ1 (.slice false 5 (Tr.pvs ts1)) σ2)(h5:Hq 135 [59] σ2 σ3)(h6:Hm 19 s1 m1 m2 (.slice false 5 (Tr.pvs ts1)) σ3 U1):Ht 242 σ U1 σ3:=
 ruleO R81 [st 2 (oW h1),st 6 (oW h2),st 2 (oW h3),st 2 (oW h4),st 2 (oW h5),st 5 (oW h6),st 0 (zl σ3 U1)] (rz 2 U1)
theorem R142:Rn 276 a276:=fun _ _ _=>rfl
theorem r142(h1:Hp σ m1 m2)(h2:Hs 136 σ s1 σ1)(h3:Hm 20 s1 m1 m2 .nils σ1 U1):Ht 276 σ U1 σ1:=
 ruleO R142 [st 2 (oW h1),st 6 (oW h2),st 5 (oW h3),st 0 (zl σ1 U1)] (rz 2 U1)
theorem R128:Rn 269 a269:=fun _ _ _=>rfl
theorem r128_1(h1:Hp σ m1 m2)(h2:Ht 276 σ U1 σ1)(h3:Hb 178 [91] σ1 true σ2)(h4:Ht 239 σ2 U2 σ3)(h5:Hq 135 [93] σ3 σ4)(h6:Hm 21 [] m1 m2 (.slice false 5 [U1.pv,U2.pv]) σ4 U3):Ht 269 σ U3 σ4:=
 ruleO R128 [st 2 (oW h1),st 6 (oW h2),st 1 (PS σ1 (AqN U1)),st 1 (oW h3),st 3 (oW h4),st 1 (PS σ3 (AqN U2)),st 1 (oW h5),st 3 (QS σ4 (ld_tr U1)),st 0 (QS σ4 (ld_tr U2)),st 0 (bz2 σ4 U1 U2),st 0 (wm h6),st 0 (zl σ4 U3)] (rz 2 U3)
theorem r128_2(h1:Hp σ m1 m2)(h2:Ht 276 σ U1 σ1)(h3:Hb 178 [91] σ1 false σ2)(h4:Hb 178 [46] σ2 true σ3)(h5:Hs 136 σ3 s1 σ4)(h6:Hm 22 s1 m1 m2 (.slice false 5 [U1.pv]) σ4 U2):Ht 269 σ U2 σ4:=
 ruleO R128 [st 2 (oW h1),st 6 (oW h2),st 1 (PS σ1 (AqN U1)),st 1 (oW h3),st 3 (oW h4),st 3 (oW h5),st 5 (QS σ4 (ld_tr U1)),st 0 (bz1 σ4 U1),st 0 (wm h6),st 0 (zl σ4 U2)] (rz 2 U2)
theorem r128_3(h1:Hp σ m1 m2)(h2:Ht 276 σ U1 σ1)(h3:Hb 178 [91] σ1 false σ2)(h4:Hb 178 [46] σ2 false σ3):Ht 269 σ U1 σ3:=
 ruleO R128 [st 2 (oW h1),st 6 (oW h2),st 1 (PS σ1 (AqN U1)),st 1 (oW h3),st 3 (oW h4),st 2 (QS σ3 (ld_tr U1)),st 0 (zl σ3 U1)] (rz 2 U1)
theorem R35:Rn 239 a239:=fun _ _ _=>rfl
theorem r35(h1:E 264 [r0,(.func 265 [r0] []),(.slice false 1 [(.str [111,114])])] σ U1.pv σ1):Ht 239 σ U1 σ1:=
 ruleO R35 [st 5 (op_wc h1 (by rfl) (by simp) (by simp) (by simp):OpEv pur run (.w (.call 264)) [r0,(.func 265 [r0] []),(.slice true 1 [(.str [111,114])])] σ [some U1.pv] σ1),st 0 (zl σ1 U1)] (rz 2 U1)
theorem R70:Rn 265 a265:=fun _ _ _=>rfl
theorem r70(h1:E 264 [r0,(.func 275 [r0] []),(.slice false 1 [(.str [97,110,100])])] σ U1.pv σ1):Ht 265 σ U1 σ1:=
 ruleO R70 [st 5 (op_wc h1 (by rfl) (by simp) (by simp) (by simp):OpEv pur run (.w (.call 264)) [r0,(.func 275 [r0] []),(.slice true 1 [(.str [97,110,100])])] σ [some U1.pv] σ1),st 0 (zl σ1 U1)] (rz 2 U1)
theorem R119:Rn 275 a275:=fun _ _ _=>rfl
theorem r119_1(h1:Hp σ m1 m2)(h2:Hb 178 [110,111,116] σ true σ1)(h3:Ht 275 σ1 U1 σ2)(h4:Hm 28 [110,111,116] m1 m2 (.slice false 5 [U1.pv]) σ2 U2):Ht 275 σ U2 σ2:=
 ruleO R119 [st 2 (oW h1),st 6 (oW h2),st 2 (oW h3),st 1 (PS σ2 (AqN U1)),st 3 (QS σ2 (ld_tr U1)),st 0 (bz1 σ2 U1),st 0 (wm h4),st 0 (zl σ2 U2)] (rz 2 U2)
theorem r119_2(h1:Hp σ m1 m2)(h2:Hb 178 [110,111,116] σ false σ1)(h3:Ht 280 σ1 U1 σ2)(h4:Hw [(.str [61,61]),(.str [33,61]),(.str [60]),(.str [60,61]),(.str [62]),(.str [62,61])] σ2 true)(h5:Hs 143 σ2 s1 σ3)(h6:Ht 280 σ3 U2 σ4)(h7:Hm 29 s1 m1 m2 (.slice false 5 [U1.pv,U2.pv]) σ4 U3):Ht 275 σ U3 σ4:=
 ruleO R119 [st 2 (oW h1),st 6 (oW h2),st 2 (oW h3),st 1 (PS σ2 (AqN U1)),st 2 (op_wc h4 (by rfl) (by rfl) (by rfl) (by rfl):OpEv pur run (.w (.call 60)) [r0,(.slice true 1 [(.str [61,61]),(.str [33,61]),(.str [60]),(.str [60,61]),(.str [62]),(.str [62,61])])] σ2 [some (.bool true)] σ2),st 2 (oW h5),st 2 (oW h6),st 1 (PS σ4 (AqN U2)),st 4 (QS σ4 (ld_tr U1)),st 0 (QS σ4 (ld_tr U2)),st 0 (bz2 σ4 U1 U2),st 0 (wm h7),st 0 (zl σ4 U3)] (rz 2 U3)
theorem r119_3(h1:Hp σ m1 m2)(h2:Hb 178 [110,111,116] σ false σ1)(h3:Ht 280 σ1 U1 σ2)(h4:Hw [(.str [61,61]),(.str [33,61]),(.str [60]),(.str [60,61]),(.str [62]),(.str [62,61])] σ2 false):Ht 275 σ U1 σ2:=
 ruleO R119 [st 2 (oW h1),st 6 (oW h2),st 2 (oW h3),st 1 (PS σ2 (AqN U1)),st 2 (op_wc h4 (by rfl) (by rfl) (by rfl) (by rfl):OpEv pur run (.w (.call 60)) [r0,(.slice true 1 [(.str [61,61]),(.str [33,61]),(.str [60]),(.str [60,61]),(.str [62]),(.str [62,61])])] σ2 [some (.bool false)] σ2),st 1 (QS σ2 (ld_tr U1)),st 0 (zl σ2 U1)] (rz 2 U1)
theorem R141:Rn 280 a280:=fun _ _ _=>rfl
theorem r141(h1:E 264 [r0,(.func 284 [r0] []),(.slice false 1 [(.str [43]),(.str [45])])] σ U1.pv σ1):Ht 280 σ U1 σ1:=
 ruleO R141 [st 5 (op_wc h1 (by rfl) (by simp) (by simp) (by simp):OpEv pur run (.w (.call 264)) [r0,(.func 284 [r0] []),(.slice true 1 [(.str [43]),(.str [45])])] σ [some U1.pv] σ1),st 0 (zl σ1 U1)] (rz 2 U1)
theorem R152:Rn 284 a284:=fun _ _ _=>rfl
theorem r152(h1:E 264 [r0,(.func 285 [r0] []),(.slice false 1 [(.str [42]),(.str [47]),(.str [37])])] σ U1.pv σ1):Ht 284 σ U1 σ1:=
 ruleO R152 [st 5 (op_wc h1 (by rfl) (by simp) (by simp) (by simp):OpEv pur run (.w (.call 264)) [r0,(.func 285 [r0] []),(.slice true 1 [(.str [42]),(.str [47]),(.str [37])])] σ [some U1.pv] σ1),st 0 (zl σ1 U1)] (rz 2 U1)
theorem R156:Rn 285 a285:=fun _ _ _=>rfl
theorem r156_1(h1:Hp σ m1 m2)(h2:Hb 178 [45] σ true σ1)(h3:Ht 285 σ1 U1 σ2)(h4:Hm 28 [45] m1 m2 (.slice false 5 [U1.pv]) σ2 U2):Ht 285 σ U2 σ2:=
 ruleO R156 [st 2 (oW h1),st 6 (oW h2),st 2 (oW h3),st 1 (PS σ2 (AqN U1)),st 3 (QS σ2 (ld_tr U1)),st 0 (bz1 σ2 U1),st 0 (wm h4),st 0 (zl σ2 U2)] (rz 2 U2)
theorem r156_2(h1:Hp σ m1 m2)(h2:Hb 178 [45] σ false σ1)(h3:Ht 286 σ1 U1 σ2):Ht 285 σ U1 σ2:=
 ruleO R156 [st 2 (oW h1),st 6 (oW h2),st 2 (oW h3),st 0 (zl σ2 U1)] (rz 2 U1)
theorem R162:Rn 286 a286:=fun _ _ _=>rfl
theorem r162_1(h1:Hp σ m1 m2)(h2:Hi 2 σ true)(h3:Hs 182 σ s1 σ1)(h4:Hm 24 s1 m1 m2 .nils σ1 U1):Ht 286 σ U1 σ1:=
 ruleO R162 [st 2 (oW h1),st 6 (oW h2),st 3 (oW h3),st 5 (oW h4),st 0 (zl σ1 U1)] (rz 2 U1)
theorem r162_2(h1:Hp σ m1 m2)(h2:Hi 2 σ false)(h3:Hw [(.str [116,114,117,101]),(.str [102,97,108,115,101])] σ true)(h4:Hs 143 σ s1 σ1)(h5:Hm 25 s1 m1 m2 .nils σ1 U1):Ht 286 σ U1 σ1:=
 ruleO R162 [st 2 (oW h1),st 6 (oW h2),st 4 (op_wc h3 (by rfl) (by rfl) (by rfl) (by rfl):OpEv pur run (.w (.call 60)) [r0,(.slice true 1 [(.str [116,114,117,101]),(.str [102,97,108,115,101])])] σ [some (.bool true)] σ),st 3 (oW h4),st 5 (oW h5),st 0 (zl σ1 U1)] (rz 2 U1)
theorem r162_3(h1:Hp σ m1 m2)(h2:Hi 2 σ false)(h3:Hw [(.str [116,114,117,101]),(.str [102,97,108,115,101])] σ false)(h4:Hi 0 σ true)(h5:Hb 267 [40] σ false σ)(h6:Ht 269 σ U1 σ1):Ht 286 σ U1 σ1:=
 ruleO R162 [st 2 (oW h1),st 6 (oW h2),st 4 (op_wc h3 (by rfl) (by rfl) (by rfl) (by rfl):OpEv pur run (.w (.call 60)) [r0,(.slice true 1 [(.str [116,114,117,101]),(.str [102,97,108,115,101])])] σ [some (.bool false)] σ),st 3 (oW h4),sg 2 (oW h5),st 4 (oW h4),st 3 (oW h6),st 0 (zl σ1 U1)] (rz 2 U1)
theorem r162_4(h1:Hp σ m1 m2)(h2:Hi 2 σ false)(h3:Hw [(.str [116,114,117,101]),(.str [102,97,108,115,101])] σ false)(h4:Hi 0 σ false)(h5:Hb 178 [91] σ true σ1)(h6:E 137 [r0,(.func 239 [r0] [])] σ1 (.slice false 5 (Tr.pvs ts1)) σ2)(h7:Hq 135 [93] σ2 σ3)(h8:Hm 26 [] m1 m2 (.slice false 5 (Tr.pvs ts1)) σ3 U1):Ht 286 σ U1 σ3:=
 ruleO R162 [st 2 (oW h1),st 6 (oW h2),st 4 (op_wc h3 (by rfl) (by rfl) (by rfl) (by rfl):OpEv pur run (.w (.call 60)) [r0,(.slice true 1 [(.str [116,114,117,101]),(.str [102,97,108,115,101])])] σ [some (.bool false)] σ),st 3 (oW h4),st 7 (oW h4),st 3 (oW h5),st 5 (oW h6),st 2 (oW h7),st 4 (oW h8),st 0 (zl σ3 U1)] (rz 2 U1)
theorem r162_5(h1:Hp σ m1 m2)(h2:Hi 2 σ false)(h3:Hw [(.str [116,114,117,101]),(.str [102,97,108,115,101])] σ false)(h4:Hi 0 σ true)(h5:Hb 267 [40] σ true σ)(h6:Hs 143 σ s1 σ1)(h7:E 268 [r0] σ1 .nils σ2)(h8:Hm 27 s1 m1 m2 .nils σ2 U1):Ht 286 σ U1 σ2:=
 ruleO R162 [st 2 (oW h1),st 6 (oW h2),st 4 (op_wc h3 (by rfl) (by rfl) (by rfl) (by rfl):OpEv pur run (.w (.call 60)) [r0,(.slice true 1 [(.str [116,114,117,101]),(.str [102,97,108,115,101])])] σ [some (.bool false)] σ),st 3 (oW h4),sg 2 (oW h5),st 4 (oW h6),st 2 (oW h7),st 6 (oW h8),st 0 (zl σ2 U1)] (rz 2 U1)
theorem r162_6(h1:Hp σ m1 m2)(h2:Hi 2 σ false)(h3:Hw [(.str [116,114,117,101]),(.str [102,97,108,115,101])] σ false)(h4:Hi 0 σ true)(h5:Hb 267 [40] σ true σ)(h6:Hs 143 σ s1 σ1)(h7:E 268 [r0] σ1 (.slice false 5 (Tr.pvs ts1)) σ2)(h8:Hm 27 s1 m1 m2 (.slice false 5 (Tr.pvs ts1)) σ2 U1):Ht 286 σ U1 σ2:=
 ruleO R162 [st 2 (oW h1),st 6 (oW h2),st 4 (op_wc h3 (by rfl) (by rfl) (by rfl) (by rfl):OpEv pur run (.w (.call 60)) [r0,(.slice true 1 [(.str [116,114,117,101]),(.str [102,97,108,115,101])])] σ [some (.bool false)] σ),st 3 (oW h4),sg 2 (oW h5),st 4 (oW h6),st 2 (oW h7),st 6 (oW h8),st 0 (zl σ2 U1)] (rz 2 U1)
theorem r162_7(h1:Hp σ m1 m2)(h2:Hi 2 σ false)(h3:Hw [(.str [116,114,117,101]),(.str [102,97,108,115,101])] σ false)(h4:Hi 0 σ false)(h5:Hb 178 [91] σ false σ1)(h6:Hb 178 [108,101,110] σ1 true σ2)(h7:Hq 135 [40] σ2 σ3)(h8:Ht 276 σ3 U1 σ4)(h9:Hq 135 [41] σ4 σ5)(h10:Hm 23 [] m1 m2 (.slice false 5 [U1.pv]) σ5 U2):Ht 286 σ U2 σ5:=
 ruleO R162 [st 2 (oW h1),st 6 (oW h2),st 4 (op_wc h3 (by rfl) (by rfl) (by rfl) (by rfl):OpEv pur run (.w (.call 60)) [r0,(.slice true 1 [(.str [116,114,117,101]),(.str [102,97,108,115,101])])] σ [some (.bool false)] σ),st 3 (oW h4),st 7 (oW h4),st 3 (oW h5),st 3 (oW h6),st 3 (oW h7),st 1 (oW h8),st 1 (PS σ4 (AqN U1)),st 1 (oW h9),st 3 (QS σ5 (ld_tr U1)),st 0 (bz1 σ5 U1),st 0 (wm h10),st 0 (zl σ5 U2)] (rz 2 U2)
theorem r162_8(h1:Hp σ m1 m2)(h2:Hi 2 σ false)(h3:Hw [(.str [116,114,117,101]),(.str [102,97,108,115,101])] σ false)(h4:Hi 0 σ false)(h5:Hb 178 [91] σ false σ1)(h6:Hb 178 [108,101,110] σ1 false σ2)(h7:Hb 178 [40] σ2 true σ3)(h8:Ht 239 σ3 U1 σ4)(h9:Hq 135 [41] σ4 σ5):Ht 286 σ U1 σ5:=
 ruleO R162 [st 2 (oW h1),st 6 (oW h2),st 4 (op_wc h3 (by rfl) (by rfl) (by rfl) (by rfl):OpEv pur run (.w (.call 60)) [r0,(.slice true 1 [(.str [116,114,117,101]),(.str [102,97,108,115,101])])] σ [some (.bool false)] σ),st 3 (oW h4),st 7 (oW h4),st 3 (oW h5),st 3 (oW h6),st 3 (oW h7),st 3 (oW h8),st 1 (PS σ4 (AqN U1)),st 1 (oW h9),st 0 (QS σ5 (ld_tr U1)),st 0 (zl σ5 U1)] (rz 2 U1)
theorem r162_9(h1:Hp σ m1 m2)(h2:Hi 2 σ false)(h3:Hw [(.str [116,114,117,101]),(.str [102,97,108,115,101])] σ false)(h4:Hi 0 σ false)(h5:Hb 178 [91] σ false σ1)(h6:Hb 178 [108,101,110] σ1 false σ2)(h7:Hb 178 [40] σ2 false σ3)(h8:E 63 [r0,(I 5),(.str [])] σ3 (.tuple []) σ4)(h9:Ht 179 σ4 U1 σ4):Ht 286 σ U1 σ4:=
 ruleO R162 [st 2 (oW h1),st 6 (oW h2),st 4 (op_wc h3 (by rfl) (by rfl) (by rfl) (by rfl):OpEv pur run (.w (.call 60)) [r0,(.slice true 1 [(.str [116,114,117,101]),(.str [102,97,108,115,101])])] σ [some (.bool false)] σ),st 3 (oW h4),st 7 (oW h4),st 3 (oW h5),st 3 (oW h6),st 3 (oW h7),st 3 (oW h8),st 1 (oW h9),st 0 (zl σ4 U1)] (rz 2 U1)
theorem R126:Rn 267 a267:=fun _ _ _=>rfl
theorem r126_1(h1:E 57 [r0,(I 1)] σ t1.pv σ)(c1:((t1.k:Nat):Int)=3)(h2:E 133 [r0,t1.pv] σ (.str s1) σ):E 267 [r0,(.str w)] σ (.bool (s1==w)) σ:=
 rule R126 [st 2 (oW h1),st 4 (PS σ (AqR .i64 c1)),sg 3 (oW h2)]
theorem r126_2(h1:E 57 [r0,(I 1)] σ t1.pv σ)(c1:((t1.k:Nat):Int)≠3):Hb 267 w σ false σ:=
 rule R126 [st 2 (oW h1),st 4 (PS σ (AqB .i64 c1))]
theorem R127:Rn 268 a268:=fun _ _ _=>rfl
theorem r127_1(h1:Hq 135 [40] σ σ1)(h2:Hw [(.str [41])] σ1 true)(h3:Hq 135 [41] σ1 σ2):E 268 [r0] σ .nils σ2:=
 rule R127 [st 2 (oW h1),st 3 (op_wc h2 (by rfl) (by rfl) (by rfl) (by rfl):OpEv pur run (.w (.call 60)) [r0,(.slice true 1 [(.str [41])])] σ1 [some (.bool true)] σ1),st 3 (oW h3)]
theorem r127_2(h1:Hq 135 [40] σ σ1)(h2:Hw [(.str [41])] σ1 false)(h3:E 137 [r0,(.func 239 [r0] [])] σ1 (.slice false 5 (Tr.pvs ts1)) σ2)(h4:Hq 135 [41] σ2 σ3):E 268 [r0] σ (.slice false 5 (Tr.pvs ts1)) σ3:=
 rule R127 [st 2 (oW h1),st 3 (op_wc h2 (by rfl) (by rfl) (by rfl) (by rfl):OpEv pur run (.w (.call 60)) [r0,(.slice true 1 [(.str [41])])] σ1 [some (.bool false)] σ1),st 5 (oW h3),st 2 (oW h4)]
theorem R77:Rn 142 a142:=fun _ _ _=>rfl
theorem r77_1(h1:Hp σ m1 m2)(h2:Hb 178 [123] σ true σ1)(L1:LL a142 0 [(0,some r0),(2,some Z1),(3,some (N m1)),(4,some (N m2)),(5,some .nils)] σ1 (.exit 0) [(0,some r0),(2,some Z1),(3,some (N m1)),(4,some (N m2)),(5,some (accP 5 es1))] σ2)(h3:Hq 135 [125] σ2 σ3)(h4:E 139 [r0,(I 11),(.str []),(N m1),(N m2),(accD 5 es1)] σ3 U1.pv σ3):Ht 142 σ U1 σ3:=
 ruleO R77 [st 2 (oW h1),st 6 (oW h2),sl 3 [0,2,3,4,5] L1,st 1 (oW h3),st 3 (PS σ3 (mv_acc 5 es1)),st 0 (oW h4),st 0 (zl σ3 U1)] (rz 2 U1)
theorem r77_2(h1:Hp σ m1 m2)(h2:Hb 178 [123] σ false σ1)(h3:E 63 [r0,(I 4),(.str [123])] σ1 (.tuple []) σ2)(h4:Hm 11 [] m1 m2 .nils σ2 U1):Ht 142 σ U1 σ2:=
 ruleO R77 [st 2 (oW h1),st 6 (oW h2),st 3 (oW h3),st 3 (oW h4),st 0 (zl σ2 U1)] (rz 2 U1)
theorem r77_l0_out1(h1:Hw [(.str [125]),(.str [112,114,111,99]),(.str [114,101,99,111,114,100])] σ2 true):LL a142 0 [(0,some r0),(2,some Z1),(3,some (N m1)),(4,some (N m2)),(5,some (accP 5 es1))] σ2 (.exit 0) [(0,some r0),(2,some Z1),(3,some (N m1)),(4,some (N m2)),(5,some (accP 5 es1))] σ2:=
 ruleX [0,2,3,4,5] [st 2 (op_wc h1 (by rfl) (by rfl) (by rfl) (by rfl):OpEv pur run (.w (.call 60)) [r0,(.slice true 1 [(.str [125]),(.str [112,114,111,99]),(.str [114,101,99,111,114,100])])] σ2 [some (.bool true)] σ2)]
theorem r77_l0_out2(h1:Hw [(.str [125]),(.str [112,114,111,99]),(.str [114,101,99,111,114,100])] σ2 false)(h2:Hi 5 σ2 true):LL a142 0 [(0,some r0),(2,some Z1),(3,some (N m1)),(4,some (N m2)),(5,some (accP 5 es1))] σ2 (.exit 0) [(0,some r0),(2,some Z1),(3,some (N m1)),(4,some (N m2)),(5,some (accP 5 es1))] σ2:=
 ruleX [0,2,3,4,5] [st 2 (op_wc h1 (by rfl) (by rfl) (by rfl) (by rfl):OpEv pur run (.w (.call 60)) [r0,(.slice true 1 [(.str [125]),(.str [112,114,111,99]),(.str [114,101,99,111,114,100])])] σ2 [some (.bool false)] σ2),sg 3 (oW h2)]
theorem r77_l0_next1(h1:Hw [(.str [125]),(.str [112,114,111,99]),(.str [114,101,99,111,114,100])] σ2 false)(h2:Hi 5 σ2 false)(h3:Ht 183 σ2 U1 σ3)(l1:es1.length+1≤AqC)(hl:LL a142 0 [(0,some r0),(2,some Z1),(3,some (N m1)),(4,some (N m2)),(5,some (accP 5 (es1++[U1.pv])))] σ3 e ff' σ'):LL a142 0 [(0,some r0),(2,some Z1),(3,some (N m1)),(4,some (N m2)),(5,some (accP 5 es1))] σ2 e ff' σ':=
 ruleN [0,2,3,4,5] [st 2 (op_wc h1 (by rfl) (by rfl) (by rfl) (by rfl):OpEv pur run (.w (.call 60)) [r0,(.slice true 1 [(.str [125]),(.str [112,114,111,99]),(.str [114,101,99,111,114,100])])] σ2 [some (.bool false)] σ2),sg 3 (oW h2),st 3 (PS σ2 (AkY 5 es1)),st 1 (oW h3),st 0 (bz1 σ3 U1),st 0 (op_p (AzX l1 (by simp)):OpEv pur run (.p (.app 5)) [(accP 5 es1),(.slice true 5 [U1.pv])] σ3 [some (accP 5 (es1++[U1.pv])),some (accD 5 es1)] σ3),st 0 (PS σ3 (AkY 5 (es1++[U1.pv])))] hl
theorem R105:Rn 137 a137:=fun _ _ _=>rfl
theorem r105(pg:pur g=false)(h1:E g [r0] σ U1.pv σ1)(L1:LL a137 0 [(0,some r0),(1,some (.func g [r0] [])),(5,some (.slice true 5 [U1.pv]))] σ1 (.exit 0) [(1,some (.func g [r0] [])),(5,some (.slice true 5 (Tr.pvs ts1)))] σ2):E 137 [r0,(.func g [r0] [])] σ (.slice false 5 (Tr.pvs ts1)) σ2:=
 rule R105 [st 2 (op_wd h1 pg (by simp) (by simp) (by simp):OpEv pur run (.w .calld) [(.func g [r0] [])] σ [some U1.pv] σ1),st 0 (bz1 σ1 U1),sl 1 [0,1,5] L1]
theorem r105_l0_next1(h1:Hb 178 [44] σ2 true σ3)(pg:pur g=false)(h2:E g [r0] σ3 U1.pv σ4)(l1:ts1.length+1≤AqC)(hl:LL a137 0 [(0,some r0),(1,some (.func g [r0] [])),(5,some (.slice true 5 (Tr.pvs (ts1++[U1]))))] σ4 e ff' σ'):LL a137 0 [(0,some r0),(1,some (.func g [r0] [])),(5,some (.slice true 5 (Tr.pvs ts1)))] σ2 e ff' σ':=
 ruleN [0,1,5] [st 1 (oW h1),st 3 (op_wd h2 pg (by simp) (by simp) (by simp):OpEv pur run (.w .calld) [(.func g [r0] [])] σ3 [some U1.pv] σ4),st 0 (bz1 σ4 U1),st 0 (PS σ4 (app_trs true U1 l1))] hl
theorem r105_l0_out1(h1:Hb 178 [44] σ2 false σ3):LL a137 0 [(0,some r0),(1,some (.func g [r0] [])),(5,some (.slice true 5 (Tr.pvs ts1)))] σ2 (.exit 0) [(1,some (.func g [r0] [])),(5,some (.slice true 5 (Tr.pvs ts1)))] σ3:=
 ruleX [1,5] [st 1 (oW h1)]
theorem R69:Rn 264 a264:=fun _ _ _=>rfl
theorem r69{ws:List (List UInt8)}(h1:Hp σ m1 m2)(pg:pur g=false)(h2:E g [r0] σ U1.pv σ1)(L1:LL a264 0 [(0,some r0),(1,some (.func g [r0] [])),(2,some (.slice false 1 (ws.map PV.str))),(6,some Z1),(7,some (N m1)),(8,some (N m2)),(9,some U1.pv)] σ1 (.exit 0) [(0,some r0),(1,some (.func g [r0] [])),(6,some Z1),(9,some U2.pv)] σ2):E 264 [r0,(.func g [r0] []),(.slice false 1 (ws.map PV.str))] σ U2.pv σ2:=
 ruleO R69 [st 2 (oW h1),st 6 (op_wd h2 pg (by simp) (by simp) (by simp):OpEv pur run (.w .calld) [(.func g [r0] [])] σ [some U1.pv] σ1),st 1 (zl σ1 U1),sl 0 [0,1,2,6,7,8,9] L1,st 0 (PS σ2 (AvO U2)),st 0 (zl σ2 U2)] (rz 6 U2)
theorem r69_l0_next1{ws:List (List UInt8)}(h1:E 60 [r0,(.slice false 1 (ws.map PV.str))] σ2 (.bool true) σ2)(h2:Hs 143 σ2 s1 σ3)(pg:pur g=false)(h3:E g [r0] σ3 U2.pv σ4)(h4:Hm 29 s1 m1 m2 (.slice false 5 [U1.pv,U2.pv]) σ4 U3)(hl:LL a264 0 [(0,some r0),(1,some (.func g [r0] [])),(2,some (.slice false 1 (ws.map PV.str))),(6,some Z1),(7,some (N m1)),(8,some (N m2)),(9,some U3.pv)] σ4 e ff' σ'):LL a264 0 [(0,some r0),(1,some (.func g [r0] [])),(2,some (.slice false 1 (ws.map PV.str))),(6,some Z1),(7,some (N m1)),(8,some (N m2)),(9,some U1.pv)] σ2 e ff' σ':=
 ruleN [0,1,2,6,7,8,9] [st 2 (oW h1),st 2 (oW h2),st 2 (op_wd h3 pg (by simp) (by simp) (by simp):OpEv pur run (.w .calld) [(.func g [r0] [])] σ3 [some U2.pv] σ4),st 1 (PS σ4 (AqN U2)),st 4 (PS σ4 (AvO U1)),st 0 (QS σ4 (ld_tr U2)),st 0 (bz2 σ4 U1 U2),st 0 (wm h4),st 0 (PS σ4 (stl_trt U1 U3))] hl
theorem r69_l0_out1{ws:List (List UInt8)}(h1:E 60 [r0,(.slice false 1 (ws.map PV.str))] σ2 (.bool false) σ2):LL a264 0 [(0,some r0),(1,some (.func g [r0] [])),(2,some (.slice false 1 (ws.map PV.str))),(6,some Z1),(7,some (N m1)),(8,some (N m2)),(9,some U1.pv)] σ2 (.exit 0) [(0,some r0),(1,some (.func g [r0] [])),(6,some Z1),(9,some U1.pv)] σ2:=
 ruleX [0,1,6,9] [st 2 (oW h1)]
theorem R38:Rn 183 a183:=fun _ _ _=>rfl
theorem r38_1(h1:Hw [(.str [118,97,114])] σ true)(h2:Ht 237 σ U1 σ1):Ht 183 σ U1 σ1:=
 ruleO R38 [st 3 (op_wc h1 (by rfl) (by rfl) (by rfl) (by rfl):OpEv pur run (.w (.call 60)) [r0,(.slice true 1 [(.str [118,97,114])])] σ [some (.bool true)] σ),st 3 (oW h2),st 0 (zl σ1 U1)] (rz 2 U1)
theorem r38_2(h1:Hw [(.str [118,97,114])] σ false)(h2:Hw [(.str [105,102])] σ true)(h3:Ht 238 σ U1 σ1):Ht 183 σ U1 σ1:=
 ruleO R38 [st 3 (op_wc h1 (by rfl) (by rfl) (by rfl) (by rfl):OpEv pur run (.w (.call 60)) [r0,(.slice true 1 [(.str [118,97,114])])] σ [some (.bool false)] σ),st 4 (op_wc h2 (by rfl) (by rfl) (by rfl) (by rfl):OpEv pur run (.w (.call 60)) [r0,(.slice true 1 [(.str [105,102])])] σ [some (.bool true)] σ),st 3 (oW h3),st 0 (zl σ1 U1)] (rz 2 U1)
theorem r38_3(h1:Hw [(.str [118,97,114])] σ false)(h2:Hw [(.str [105,102])] σ false)(h3:Hw [(.str [119,104,105,108,101])] σ true)(h4:Hp σ m1 m2)(h5:Hs 143 σ s1 σ1)(h6:Ht 239 σ1 U1 σ2)(h7:Ht 142 σ2 U2 σ3)(h8:Hm 15 [] m1 m2 (.slice false 5 [U1.pv,U2.pv]) σ3 U3):Ht 183 σ U3 σ3:=
 ruleO R38 [st 3 (op_wc h1 (by rfl) (by rfl) (by rfl) (by rfl):OpEv pur run (.w (.call 60)) [r0,(.slice true 1 [(.str [118,97,114])])] σ [some (.bool false)] σ),st 4 (op_wc h2 (by rfl) (by rfl) (by rfl) (by rfl):OpEv pur run (.w (.call 60)) [r0,(.slice true 1 [(.str [105,102])])] σ [some (.bool false)] σ),st 4 (op_wc h3 (by rfl) (by rfl) (by rfl) (by rfl):OpEv pur run (.w (.call 60)) [r0,(.slice true 1 [(.str [119,104,105,108,101])])] σ [some (.bool true)] σ),st 3 (oW h4),st 6 (oW h5),st 1 (oW h6),st 1 (PS σ2 (AqN U1)),st 1 (oW h7),st 1 (PS σ3 (AqN U2)),st 3 (QS σ3 (ld_tr U1)),st 0 (QS σ3 (ld_tr U2)),st 0 (bz2 σ3 U1 U2),st 0 (wm h8),st 0 (zl σ3 U3)] (rz 2 U3)
theorem r38_4(h1:Hw [(.str [118,97,114])] σ false)(h2:Hw [(.str [105,102])] σ false)(h3:Hw [(.str [119,104,105,108,101])] σ false)(h4:Hw [(.str [102,111,114])] σ true)(h5:Ht 240 σ U1 σ1):Ht 183 σ U1 σ1:=
 ruleO R38 [st 3 (op_wc h1 (by rfl) (by rfl) (by rfl) (by rfl):OpEv pur run (.w (.call 60)) [r0,(.slice true 1 [(.str [118,97,114])])] σ [some (.bool false)] σ),st 4 (op_wc h2 (by rfl) (by rfl) (by rfl) (by rfl):OpEv pur run (.w (.call 60)) [r0,(.slice true 1 [(.str [105,102])])] σ [some (.bool false)] σ),st 4 (op_wc h3 (by rfl) (by rfl) (by rfl) (by rfl):OpEv pur run (.w (.call 60)) [r0,(.slice true 1 [(.str [119,104,105,108,101])])] σ [some (.bool false)] σ),st 4 (op_wc h4 (by rfl) (by rfl) (by rfl) (by rfl):OpEv pur run (.w (.call 60)) [r0,(.slice true 1 [(.str [102,111,114])])] σ [some (.bool true)] σ),st 3 (oW h5),st 0 (zl σ1 U1)] (rz 2 U1)
theorem r38_5(h1:Hw [(.str [118,97,114])] σ false)(h2:Hw [(.str [105,102])] σ false)(h3:Hw [(.str [119,104,105,108,101])] σ false)(h4:Hw [(.str [102,111,114])] σ false)(h5:Hw [(.str [114,101,116,117,114,110]),(.str [97,115,115,101,114,116])] σ true)(h6:Ht 241 σ U1 σ1):Ht 183 σ U1 σ1:=
 ruleO R38 [st 3 (op_wc h1 (by rfl) (by rfl) (by rfl) (by rfl):OpEv pur run (.w (.call 60)) [r0,(.slice true 1 [(.str [118,97,114])])] σ [some (.bool false)] σ),st 4 (op_wc h2 (by rfl) (by rfl) (by rfl) (by rfl):OpEv pur run (.w (.call 60)) [r0,(.slice true 1 [(.str [105,102])])] σ [some (.bool false)] σ),st 4 (op_wc h3 (by rfl) (by rfl) (by rfl) (by rfl):OpEv pur run (.w (.call 60)) [r0,(.slice true 1 [(.str [119,104,105,108,101])])] σ [some (.bool false)] σ),st 4 (op_wc h4 (by rfl) (by rfl) (by rfl) (by rfl):OpEv pur run (.w (.call 60)) [r0,(.slice true 1 [(.str [102,111,114])])] σ [some (.bool false)] σ),st 4 (op_wc h5 (by rfl) (by rfl) (by rfl) (by rfl):OpEv pur run (.w (.call 60)) [r0,(.slice true 1 [(.str [114,101,116,117,114,110]),(.str [97,115,115,101,114,116])])] σ [some (.bool true)] σ),st 3 (oW h6),st 0 (zl σ1 U1)] (rz 2 U1)
theorem r38_6(h1:Hw [(.str [118,97,114])] σ false)(h2:Hw [(.str [105,102])] σ false)(h3:Hw [(.str [119,104,105,108,101])] σ false)(h4:Hw [(.str [102,111,114])] σ false)(h5:Hw [(.str [114,101,116,117,114,110]),(.str [97,115,115,101,114,116])] σ false)(h6:Hi 0 σ true)(h7:Ht 242 σ U1 σ1):Ht 183 σ U1 σ1:=
 ruleO R38 [st 3 (op_wc h1 (by rfl) (by rfl) (by rfl) (by rfl):OpEv pur run (.w (.call 60)) [r0,(.slice true 1 [(.str [118,97,114])])] σ [some (.bool false)] σ),st 4 (op_wc h2 (by rfl) (by rfl) (by rfl) (by rfl):OpEv pur run (.w (.call 60)) [r0,(.slice true 1 [(.str [105,102])])] σ [some (.bool false)] σ),st 4 (op_wc h3 (by rfl) (by rfl) (by rfl) (by rfl):OpEv pur run (.w (.call 60)) [r0,(.slice true 1 [(.str [119,104,105,108,101])])] σ [some (.bool false)] σ),st 4 (op_wc h4 (by rfl) (by rfl) (by rfl) (by rfl):OpEv pur run (.w (.call 60)) [r0,(.slice true 1 [(.str [102,111,114])])] σ [some (.bool false)] σ),st 4 (op_wc h5 (by rfl) (by rfl) (by rfl) (by rfl):OpEv pur run (.w (.call 60)) [r0,(.slice true 1 [(.str [114,101,116,117,114,110]),(.str [97,115,115,101,114,116])])] σ [some (.bool false)] σ),st 3 (oW h6),st 3 (oW h7),st 0 (zl σ1 U1)] (rz 2 U1)
theorem r38_7(h1:Hw [(.str [118,97,114])] σ false)(h2:Hw [(.str [105,102])] σ false)(h3:Hw [(.str [119,104,105,108,101])] σ false)(h4:Hw [(.str [102,111,114])] σ false)(h5:Hw [(.str [114,101,116,117,114,110]),(.str [97,115,115,101,114,116])] σ false)(h6:Hi 0 σ false)(h7:E 63 [r0,(I 6),(.str [])] σ (.tuple []) σ1)(h8:Hp σ1 m1 m2)(L1:LL a183 0 [(0,some r0),(2,some Z1),(7,some (N m1)),(8,some (N m2))] σ1 (.exit 1) [(0,some r0),(2,some Z1),(7,some (N m1)),(8,some (N m2))] σ2)(h9:Hm 1 [] m1 m2 .nils σ2 U1):Ht 183 σ U1 σ2:=
 ruleO R38 [st 3 (op_wc h1 (by rfl) (by rfl) (by rfl) (by rfl):OpEv pur run (.w (.call 60)) [r0,(.slice true 1 [(.str [118,97,114])])] σ [some (.bool false)] σ),st 4 (op_wc h2 (by rfl) (by rfl) (by rfl) (by rfl):OpEv pur run (.w (.call 60)) [r0,(.slice true 1 [(.str [105,102])])] σ [some (.bool false)] σ),st 4 (op_wc h3 (by rfl) (by rfl) (by rfl) (by rfl):OpEv pur run (.w (.call 60)) [r0,(.slice true 1 [(.str [119,104,105,108,101])])] σ [some (.bool false)] σ),st 4 (op_wc h4 (by rfl) (by rfl) (by rfl) (by rfl):OpEv pur run (.w (.call 60)) [r0,(.slice true 1 [(.str [102,111,114])])] σ [some (.bool false)] σ),st 4 (op_wc h5 (by rfl) (by rfl) (by rfl) (by rfl):OpEv pur run (.w (.call 60)) [r0,(.slice true 1 [(.str [114,101,116,117,114,110]),(.str [97,115,115,101,114,116])])] σ [some (.bool false)] σ),st 3 (oW h6),st 3 (oW h7),st 1 (oW h8),sl 5 [0,2,7,8] L1,st 3 (oW h9),st 0 (zl σ2 U1)] (rz 2 U1)
theorem r38_l0_out1(h1:E 59 [r0,(I 5)] (pc s ls k1 l1 wr bf1::T) (.bool true) (pc s ls k1 l1 wr bf1::T)):LL a183 0 [(0,some r0),(2,some Z1),(7,some (N m1)),(8,some (N m2))] (pc s ls k1 l1 wr bf1::T) (.exit 1) [(0,some r0),(2,some Z1),(7,some (N m1)),(8,some (N m2))] (pc s ls k1 l1 wr bf1::T):=
 ruleX [0,2,7,8] [st 1 (oW h1)]
theorem r38_l0_out2(h1:E 59 [r0,(I 5)] (pc s ls k1 l1 wr bf1::T) (.bool false) (pc s ls k1 l1 wr bf1::T))(c1:(k1:Int)=(m1:Int))(h2:E 60 [r0,(.slice false 1 [(.str [125]),(.str [112,114,111,99]),(.str [114,101,99,111,114,100])])] (pc s ls k1 l1 wr bf1::T) (.bool true) (pc s ls k1 l1 wr bf1::T)):LL a183 0 [(0,some r0),(2,some Z1),(7,some (N m1)),(8,some (N m2))] (pc s ls k1 l1 wr bf1::T) (.exit 1) [(0,some r0),(2,some Z1),(7,some (N m1)),(8,some (N m2))] (pc s ls k1 l1 wr bf1::T):=
 ruleX [0,2,7,8] [st 1 (oW h1),sg 7 (PS (pc s ls k1 l1 wr bf1::T) (AqR .i64 c1)),st 12 (PS (pc s ls k1 l1 wr bf1::T) (AqR .i64 c1)),sg 3 (op_wc h2 (by rfl) (by rfl) (by rfl) (by rfl):OpEv pur run (.w (.call 60)) [r0,(.slice true 1 [(.str [125]),(.str [112,114,111,99]),(.str [114,101,99,111,114,100])])] (pc s ls k1 l1 wr bf1::T) [some (.bool true)] (pc s ls k1 l1 wr bf1::T))]
theorem r38_l0_out3(h1:E 59 [r0,(I 5)] (pc s ls k1 l1 wr bf1::T) (.bool false) (pc s ls k1 l1 wr bf1::T))(c1:(k1:Int)≠(m1:Int))(h2:E 243 [r0] (pc s ls k1 l1 wr bf1::T) (.bool true) (pc s ls k1 l1 wr bf1::T)):LL a183 0 [(0,some r0),(2,some Z1),(7,some (N m1)),(8,some (N m2))] (pc s ls k1 l1 wr bf1::T) (.exit 1) [(0,some r0),(2,some Z1),(7,some (N m1)),(8,some (N m2))] (pc s ls k1 l1 wr bf1::T):=
 ruleX [0,2,7,8] [st 1 (oW h1),sg 7 (PS (pc s ls k1 l1 wr bf1::T) (AqB .i64 c1)),sg 2 (oW h2)]
theorem r38_l0_out4(h1:E 59 [r0,(I 5)] (pc s ls k1 l1 wr bf1::T) (.bool false) (pc s ls k1 l1 wr bf1::T))(c1:(k1:Int)=(m1:Int))(h2:E 60 [r0,(.slice false 1 [(.str [125]),(.str [112,114,111,99]),(.str [114,101,99,111,114,100])])] (pc s ls k1 l1 wr bf1::T) (.bool false) (pc s ls k1 l1 wr bf1::T))(h3:E 143 [r0] (pc s ls k1 l1 wr bf1::T) (.str s1) σ2)(c2:s1=[59]):LL a183 0 [(0,some r0),(2,some Z1),(7,some (N m1)),(8,some (N m2))] (pc s ls k1 l1 wr bf1::T) (.exit 1) [(0,some r0),(2,some Z1),(7,some (N m1)),(8,some (N m2))] σ2:=
 ruleX [0,2,7,8] [st 1 (oW h1),sg 7 (PS (pc s ls k1 l1 wr bf1::T) (AqR .i64 c1)),st 12 (PS (pc s ls k1 l1 wr bf1::T) (AqR .i64 c1)),sg 3 (op_wc h2 (by rfl) (by rfl) (by rfl) (by rfl):OpEv pur run (.w (.call 60)) [r0,(.slice true 1 [(.str [125]),(.str [112,114,111,99]),(.str [114,101,99,111,114,100])])] (pc s ls k1 l1 wr bf1::T) [some (.bool false)] (pc s ls k1 l1 wr bf1::T)),sg 3 (oW h3),sg 0 (PS σ2 (AQX c2))]
theorem r38_l0_next1(h1:E 59 [r0,(I 5)] (pc s ls k1 l1 wr bf1::T) (.bool false) (pc s ls k1 l1 wr bf1::T))(c1:(k1:Int)=(m1:Int))(h2:E 60 [r0,(.slice false 1 [(.str [125]),(.str [112,114,111,99]),(.str [114,101,99,111,114,100])])] (pc s ls k1 l1 wr bf1::T) (.bool false) (pc s ls k1 l1 wr bf1::T))(h3:E 143 [r0] (pc s ls k1 l1 wr bf1::T) (.str s1) σ2)(c2:s1≠[59])(hl:LL a183 0 [(0,some r0),(2,some Z1),(7,some (N m1)),(8,some (N m2))] σ2 e ff' σ'):LL a183 0 [(0,some r0),(2,some Z1),(7,some (N m1)),(8,some (N m2))] (pc s ls k1 l1 wr bf1::T) e ff' σ':=
 ruleN [0,2,7,8] [st 1 (oW h1),sg 7 (PS (pc s ls k1 l1 wr bf1::T) (AqR .i64 c1)),st 12 (PS (pc s ls k1 l1 wr bf1::T) (AqR .i64 c1)),sg 3 (op_wc h2 (by rfl) (by rfl) (by rfl) (by rfl):OpEv pur run (.w (.call 60)) [r0,(.slice true 1 [(.str [125]),(.str [112,114,111,99]),(.str [114,101,99,111,114,100])])] (pc s ls k1 l1 wr bf1::T) [some (.bool false)] (pc s ls k1 l1 wr bf1::T)),sg 3 (oW h3),sg 0 (PS σ2 (AQY c2))] hl
theorem r38_l0_out5(h1:E 59 [r0,(I 5)] (pc s ls k1 l1 wr bf1::T) (.bool false) (pc s ls k1 l1 wr bf1::T))(c1:(k1:Int)≠(m1:Int))(h2:E 243 [r0] (pc s ls k1 l1 wr bf1::T) (.bool false) (pc s ls k1 l1 wr bf1::T))(h3:E 143 [r0] (pc s ls k1 l1 wr bf1::T) (.str s1) σ2)(c2:s1=[59]):LL a183 0 [(0,some r0),(2,some Z1),(7,some (N m1)),(8,some (N m2))] (pc s ls k1 l1 wr bf1::T) (.exit 1) [(0,some r0),(2,some Z1),(7,some (N m1)),(8,some (N m2))] σ2:=
 ruleX [0,2,7,8] [st 1 (oW h1),sg 7 (PS (pc s ls k1 l1 wr bf1::T) (AqB .i64 c1)),sg 2 (oW h2),st 9 (PS (pc s ls k1 l1 wr bf1::T) (AqB .i64 c1)),sg 7 (oW h3),sg 0 (PS σ2 (AQX c2))]
theorem r38_l0_next2(h1:E 59 [r0,(I 5)] (pc s ls k1 l1 wr bf1::T) (.bool false) (pc s ls k1 l1 wr bf1::T))(c1:(k1:Int)≠(m1:Int))(h2:E 243 [r0] (pc s ls k1 l1 wr bf1::T) (.bool false) (pc s ls k1 l1 wr bf1::T))(h3:E 143 [r0] (pc s ls k1 l1 wr bf1::T) (.str s1) σ2)(c2:s1≠[59])(hl:LL a183 0 [(0,some r0),(2,some Z1),(7,some (N m1)),(8,some (N m2))] σ2 e ff' σ'):LL a183 0 [(0,some r0),(2,some Z1),(7,some (N m1)),(8,some (N m2))] (pc s ls k1 l1 wr bf1::T) e ff' σ':=
 ruleN [0,2,7,8] [st 1 (oW h1),sg 7 (PS (pc s ls k1 l1 wr bf1::T) (AqB .i64 c1)),sg 2 (oW h2),st 9 (PS (pc s ls k1 l1 wr bf1::T) (AqB .i64 c1)),sg 7 (oW h3),sg 0 (PS σ2 (AQY c2))] hl
theorem R54:Rn 64 a64:=fun _ _ _=>rfl
theorem r54(h1:Hp σ m1 m2)(L1:LL a64 0 [(0,some r0),(1,some (.func g [] [(.ref q 0)])),(4,some Z1),(5,some (N m1)),(6,some (N m2))] σ (.exit 0) [(0,some r0),(4,some Z1),(5,some (N m1)),(6,some (N m2))] σ1)(h2:Hm 1 [] m1 m2 .nils σ1 U1):E 64 [r0,(.func g [] [(.ref q 0)])] σ U1.pv σ1:=
 ruleO R54 [st 2 (oW h1),sl 5 [0,1,4,5,6] L1,st 3 (oW h2),st 0 (zl σ1 U1)] (rz 4 U1)
theorem r54_l0_out1(h1:E 59 [r0,(I 5)] (pc s ls k1 l1 wr bf1::T) (.bool true) (pc s ls k1 l1 wr bf1::T)):LL a64 0 [(0,some r0),(1,some (.func g [] [(.ref q 0)])),(4,some Z1),(5,some (N m1)),(6,some (N m2))] (pc s ls k1 l1 wr bf1::T) (.exit 0) [(0,some r0),(4,some Z1),(5,some (N m1)),(6,some (N m2))] (pc s ls k1 l1 wr bf1::T):=
 ruleX [0,4,5,6] [st 1 (oW h1)]
theorem r54_l0_next1(h1:E 59 [r0,(I 5)] (pc s ls k1 l1 wr bf1::T) (.bool false) (pc s ls k1 l1 wr bf1::T))(c1:(k1:Int)=(m1:Int))(h2:E 143 [r0] (pc s ls k1 l1 wr bf1::T) (.str s1) σ1)(hl:LL a64 0 [(0,some r0),(1,some (.func g [] [(.ref q 0)])),(4,some Z1),(5,some (N m1)),(6,some (N m2))] σ1 e ff' σ'):LL a64 0 [(0,some r0),(1,some (.func g [] [(.ref q 0)])),(4,some Z1),(5,some (N m1)),(6,some (N m2))] (pc s ls k1 l1 wr bf1::T) e ff' σ':=
 ruleN [0,1,4,5,6] [st 1 (oW h1),sg 7 (PS (pc s ls k1 l1 wr bf1::T) (AqR .i64 c1)),st 8 (oW h2)] hl
theorem r54_l0_out2(h1:E 59 [r0,(I 5)] (pc s ls k1 l1 wr bf1::T) (.bool false) (pc s ls k1 l1 wr bf1::T))(c1:(k1:Int)≠(m1:Int))(pg:pur g=false)(h2:E g [(.ref q 0)] (pc s ls k1 l1 wr bf1::T) (.bool true) (pc s ls k1 l1 wr bf1::T)):LL a64 0 [(0,some r0),(1,some (.func g [] [(.ref q 0)])),(4,some Z1),(5,some (N m1)),(6,some (N m2))] (pc s ls k1 l1 wr bf1::T) (.exit 0) [(0,some r0),(4,some Z1),(5,some (N m1)),(6,some (N m2))] (pc s ls k1 l1 wr bf1::T):=
 ruleX [0,4,5,6] [st 1 (oW h1),sg 7 (PS (pc s ls k1 l1 wr bf1::T) (AqB .i64 c1)),sg 2 (op_wd h2 pg (by simp) (by simp) (by simp):OpEv pur run (.w .calld) [(.func g [] [(.ref q 0)])] (pc s ls k1 l1 wr bf1::T) [some (.bool true)] (pc s ls k1 l1 wr bf1::T))]
theorem r54_l0_next2(h1:E 59 [r0,(I 5)] (pc s ls k1 l1 wr bf1::T) (.bool false) (pc s ls k1 l1 wr bf1::T))(c1:(k1:Int)≠(m1:Int))(pg:pur g=false)(h2:E g [(.ref q 0)] (pc s ls k1 l1 wr bf1::T) (.bool false) (pc s ls k1 l1 wr bf1::T))(h3:E 143 [r0] (pc s ls k1 l1 wr bf1::T) (.str s1) σ1)(hl:LL a64 0 [(0,some r0),(1,some (.func g [] [(.ref q 0)])),(4,some Z1),(5,some (N m1)),(6,some (N m2))] σ1 e ff' σ'):LL a64 0 [(0,some r0),(1,some (.func g [] [(.ref q 0)])),(4,some Z1),(5,some (N m1)),(6,some (N m2))] (pc s ls k1 l1 wr bf1::T) e ff' σ':=
 ruleN [0,1,4,5,6] [st 1 (oW h1),sg 7 (PS (pc s ls k1 l1 wr bf1::T) (AqB .i64 c1)),sg 2 (op_wd h2 pg (by simp) (by simp) (by simp):OpEv pur run (.w .calld) [(.func g [] [(.ref q 0)])] (pc s ls k1 l1 wr bf1::T) [some (.bool false)] (pc s ls k1 l1 wr bf1::T)),st 5 (oW h3)] hl
theorem R55:Rn 65 a65:=fun _ _ _=>rfl
theorem r55(x1:semR (.ld 1 false) [(.ref q 0)] σ=some [some r0])(h1:Hw [(.str [112,114,111,99]),(.str [114,101,99,111,114,100])] σ b1):E 65 [(.ref q 0)] σ (.bool b1) σ:=
 rule R55 [st 1 (QS σ (x1)),st 1 (op_wc h1 (by rfl) (by rfl) (by rfl) (by rfl):OpEv pur run (.w (.call 60)) [r0,(.slice true 1 [(.str [112,114,111,99]),(.str [114,101,99,111,114,100])])] σ [some (.bool b1)] σ)]
theorem R23:Rn 17 a17:=fun _ _ _=>rfl
theorem r23(x1:semR (.ld 1 false) [(.ref (T.length+1) 0)] (pc s ls k l wr bf::(T++[[r0]]))=some [some r0])(L1:LL a17 0 [(1,some (.ref (T.length+1) 0)),(2,some Z1),(3,some (.agg [(I 2),(.str []),(I 0),(N ((s).length)),.nils]))] (pc s ls k l wr bf::(T++[[r0]])) (.exit 0) [(1,some (.ref (T.length+1) 0)),(2,some Z1),(3,some (.agg [(I 2),(.str []),(I 0),(N ((s).length)),(accP 5 es1)]))] σ1):E 17 [r0] (pc s ls k l wr bf::T) (.agg [(I 2),(.str []),(I 0),(N ((s).length)),(accD 5 es1)]) σ1:=
 ruleO R23 [st 2 (QS (pc s ls k l wr bf::(T++[[r0]])) (x1)),sl 7 [1,2,3] L1,st 0 (op_p (ldl_acc):OpEv pur run (.p (.ldl 0 5 true)) [(.agg [(I 2),(.str []),(I 0),(N ((s).length)),(accP 5 es1)])] σ1 [some (.agg [(I 2),(.str []),(I 0),(N ((s).length)),(accD 5 es1)])] σ1),st 0 (op_p (stl_of (by simp) (by simp) (by simp) (by simp[upd])):OpEv pur run (.p (.stl 0 5)) [Z1,(.agg [(I 2),(.str []),(I 0),(N ((s).length)),(accD 5 es1)])] σ1 [some (.agg [(I 2),(.str []),(I 0),(N ((s).length)),(accD 5 es1)])] σ1)] (by simp[AxZ,packR]:(resK [(2,some (.agg [(I 2),(.str []),(I 0),(N ((s).length)),(accD 5 es1)]))] [(2,(some 5))]).bind packR=some (.agg [(I 2),(.str []),(I 0),(N ((s).length)),(accD 5 es1)]))
theorem r23_l0_out1(x1:semR (.ld 1 false) [(.ref (T.length+1) 0)] σ1=some [some r0])(h1:Hi 5 σ1 true):LL a17 0 [(1,some (.ref (T.length+1) 0)),(2,some Z1),(3,some (.agg [(I 2),(.str []),(I 0),(N ((s).length)),(accP 5 es1)]))] σ1 (.exit 0) [(1,some (.ref (T.length+1) 0)),(2,some Z1),(3,some (.agg [(I 2),(.str []),(I 0),(N ((s).length)),(accP 5 es1)]))] σ1:=
 ruleX [1,2,3] [st 0 (QS σ1 (x1)),st 0 (oW h1)]
theorem r23_l0_next1(x1:semR (.ld 1 false) [(.ref (T.length+1) 0)] σ1=some [some r0])(h1:Hi 5 σ1 false)(h2:Hw [(.str [114,101,99,111,114,100])] σ1 true)(h3:Ht 61 σ1 U1 σ2)(l1:es1.length+1≤AqC)(hl:LL a17 0 [(1,some (.ref (T.length+1) 0)),(2,some Z1),(3,some (.agg [(I 2),(.str []),(I 0),(N ((s).length)),(accP 5 (es1++[U1.pv]))]))] σ2 e ff' σ'):LL a17 0 [(1,some (.ref (T.length+1) 0)),(2,some Z1),(3,some (.agg [(I 2),(.str []),(I 0),(N ((s).length)),(accP 5 es1)]))] σ1 e ff' σ':=
 ruleN [1,2,3] [st 0 (QS σ1 (x1)),st 0 (oW h1),st 2 (QS σ1 (x1)),st 1 (op_wc h2 (by rfl) (by rfl) (by rfl) (by rfl):OpEv pur run (.w (.call 60)) [r0,(.slice true 1 [(.str [114,101,99,111,114,100])])] σ1 [some (.bool true)] σ1),st 3 (op_p (ldfo_acc):OpEv pur run (.p (.ldfo 3)) [(.lref 3 4),(.agg [(I 2),(.str []),(I 0),(N ((s).length)),(accP 5 es1)])] σ1 [some (accP 5 es1),some (.agg [(I 2),(.str []),(I 0),(N ((s).length)),(accD 5 es1)])] σ1),st 0 (QS σ1 (x1)),st 0 (oW h3),st 0 (bz1 σ2 U1),st 0 (op_p (AzX l1 (by simp)):OpEv pur run (.p (.app 5)) [(accP 5 es1),(.slice true 5 [U1.pv])] σ2 [some (accP 5 (es1++[U1.pv])),some (accD 5 es1)] σ2),st 1 (op_p (stfo_acc):OpEv pur run (.p (.stfo 3)) [(.lref 3 4),(.agg [(I 2),(.str []),(I 0),(N ((s).length)),(accD 5 es1)]),(accP 5 (es1++[U1.pv]))] σ2 [some (.agg [(I 2),(.str []),(I 0),(N ((s).length)),(accP 5 (es1++[U1.pv]))]),some (accD 5 (es1++[U1.pv]))] σ2)] hl
theorem r23_l0_next2(x1:semR (.ld 1 false) [(.ref (T.length+1) 0)] σ1=some [some r0])(h1:Hi 5 σ1 false)(h2:Hw [(.str [114,101,99,111,114,100])] σ1 false)(h3:Hw [(.str [112,114,111,99])] σ1 true)(h4:Ht 62 σ1 U1 σ2)(l1:es1.length+1≤AqC)(hl:LL a17 0 [(1,some (.ref (T.length+1) 0)),(2,some Z1),(3,some (.agg [(I 2),(.str []),(I 0),(N ((s).length)),(accP 5 (es1++[U1.pv]))]))] σ2 e ff' σ'):LL a17 0 [(1,some (.ref (T.length+1) 0)),(2,some Z1),(3,some (.agg [(I 2),(.str []),(I 0),(N ((s).length)),(accP 5 es1)]))] σ1 e ff' σ':=
 ruleN [1,2,3] [st 0 (QS σ1 (x1)),st 0 (oW h1),st 2 (QS σ1 (x1)),st 1 (op_wc h2 (by rfl) (by rfl) (by rfl) (by rfl):OpEv pur run (.w (.call 60)) [r0,(.slice true 1 [(.str [114,101,99,111,114,100])])] σ1 [some (.bool false)] σ1),st 2 (QS σ1 (x1)),st 1 (op_wc h3 (by rfl) (by rfl) (by rfl) (by rfl):OpEv pur run (.w (.call 60)) [r0,(.slice true 1 [(.str [112,114,111,99])])] σ1 [some (.bool true)] σ1),st 3 (op_p (ldfo_acc):OpEv pur run (.p (.ldfo 3)) [(.lref 3 4),(.agg [(I 2),(.str []),(I 0),(N ((s).length)),(accP 5 es1)])] σ1 [some (accP 5 es1),some (.agg [(I 2),(.str []),(I 0),(N ((s).length)),(accD 5 es1)])] σ1),st 0 (QS σ1 (x1)),st 0 (oW h4),st 0 (bz1 σ2 U1),st 0 (op_p (AzX l1 (by simp)):OpEv pur run (.p (.app 5)) [(accP 5 es1),(.slice true 5 [U1.pv])] σ2 [some (accP 5 (es1++[U1.pv])),some (accD 5 es1)] σ2),st 1 (op_p (stfo_acc):OpEv pur run (.p (.stfo 3)) [(.lref 3 4),(.agg [(I 2),(.str []),(I 0),(N ((s).length)),(accD 5 es1)]),(accP 5 (es1++[U1.pv]))] σ2 [some (.agg [(I 2),(.str []),(I 0),(N ((s).length)),(accP 5 (es1++[U1.pv]))]),some (accD 5 (es1++[U1.pv]))] σ2)] hl
theorem r23_l0_next3(x1:semR (.ld 1 false) [(.ref (T.length+1) 0)] σ1=some [some r0])(h1:Hi 5 σ1 false)(h2:Hw [(.str [114,101,99,111,114,100])] σ1 false)(h3:Hw [(.str [112,114,111,99])] σ1 false)(h4:E 63 [r0,(I 7),(.str [])] σ1 (.tuple []) σ2)(x2:semR (.ld 1 false) [(.ref (T.length+1) 0)] σ2=some [some r0])(h5:E 64 [r0,(.func 65 [] [(.ref (T.length+1) 0)])] σ2 U1.pv σ3)(l1:es1.length+1≤AqC)(hl:LL a17 0 [(1,some (.ref (T.length+1) 0)),(2,some Z1),(3,some (.agg [(I 2),(.str []),(I 0),(N ((s).length)),(accP 5 (es1++[U1.pv]))]))] σ3 e ff' σ'):LL a17 0 [(1,some (.ref (T.length+1) 0)),(2,some Z1),(3,some (.agg [(I 2),(.str []),(I 0),(N ((s).length)),(accP 5 es1)]))] σ1 e ff' σ':=
 ruleN [1,2,3] [st 0 (QS σ1 (x1)),st 0 (oW h1),st 2 (QS σ1 (x1)),st 1 (op_wc h2 (by rfl) (by rfl) (by rfl) (by rfl):OpEv pur run (.w (.call 60)) [r0,(.slice true 1 [(.str [114,101,99,111,114,100])])] σ1 [some (.bool false)] σ1),st 2 (QS σ1 (x1)),st 1 (op_wc h3 (by rfl) (by rfl) (by rfl) (by rfl):OpEv pur run (.w (.call 60)) [r0,(.slice true 1 [(.str [112,114,111,99])])] σ1 [some (.bool false)] σ1),st 2 (QS σ1 (x1)),st 0 (oW h4),st 1 (op_p (ldfo_acc):OpEv pur run (.p (.ldfo 3)) [(.lref 3 4),(.agg [(I 2),(.str []),(I 0),(N ((s).length)),(accP 5 es1)])] σ2 [some (accP 5 es1),some (.agg [(I 2),(.str []),(I 0),(N ((s).length)),(accD 5 es1)])] σ2),st 0 (QS σ2 (x2)),st 1 (oW h5),st 0 (bz1 σ3 U1),st 0 (op_p (AzX l1 (by simp)):OpEv pur run (.p (.app 5)) [(accP 5 es1),(.slice true 5 [U1.pv])] σ3 [some (accP 5 (es1++[U1.pv])),some (accD 5 es1)] σ3),st 1 (op_p (stfo_acc):OpEv pur run (.p (.stfo 3)) [(.lref 3 4),(.agg [(I 2),(.str []),(I 0),(N ((s).length)),(accD 5 es1)]),(accP 5 (es1++[U1.pv]))] σ3 [some (.agg [(I 2),(.str []),(I 0),(N ((s).length)),(accP 5 (es1++[U1.pv]))]),some (accD 5 (es1++[U1.pv]))] σ3)] hl
theorem R53:Rn 63 a63:=fun _ _ _=>rfl
theorem r53n_1(h1:E 57 [r0,(I 0)] (pc s ls k l .nils bf::T) t1.pv (pc s ls k l .nils bf::T))(c1:((t1.a:Nat):Int)≠bf):E 63 [r0,(N c),(.str tx)] (pc s ls k l .nils bf::T) (.tuple []) (pc s ls k l (.arr (T.length+1) 0 0 1 5) ((t1.a:Nat):Int)::(T++[[.arrv 0 5 [(.agg [(N c),(N t1.a),(N t1.e),(.str tx),.nils])]]])):=
 rule R53 [st 1 (oW h1),st 8 (PS (pc s ls k l .nils bf::T) (AjJ .i64 c1)),st 14 (appA_nil rfl:OpEv pur run (.w (.appA 5)) [.nils,(.slice true 5 [(.agg [(N c),(N t1.a),(N t1.e),(.str tx),.nils])])] (pc s ls k l .nils bf::T) [some (.arr (T.length+1) 0 0 1 5)] (pc s ls k l .nils bf::(T++[[.arrv 0 5 [(.agg [(N c),(N t1.a),(N t1.e),(.str tx),.nils])]]]))),st 2 (stW (by first | rfl | exact hw):OpEv pur run (.w (.st 1)) [(.ref 0 4),(.arr (T.length+1) 0 0 1 5)] (pc s ls k l .nils bf::(T++[[.arrv 0 5 [(.agg [(N c),(N t1.a),(N t1.e),(.str tx),.nils])]]])) [] (pc s ls k l (.arr (T.length+1) 0 0 1 5) bf::(T++[[.arrv 0 5 [(.agg [(N c),(N t1.a),(N t1.e),(.str tx),.nils])]]]))),st 5 (stB (by first | rfl | exact hw):OpEv pur run (.w (.st 1)) [(.ref 0 5),(N t1.a)] (pc s ls k l (.arr (T.length+1) 0 0 1 5) bf::(T++[[.arrv 0 5 [(.agg [(N c),(N t1.a),(N t1.e),(.str tx),.nils])]]])) [] (pc s ls k l (.arr (T.length+1) 0 0 1 5) ((t1.a:Nat):Int)::(T++[[.arrv 0 5 [(.agg [(N c),(N t1.a),(N t1.e),(.str tx),.nils])]]])))]
theorem r53a_1{g:Nat}(hn:Ds.length=n)(hm:n+1≤AqC){t1:Tk}(h1:E 57 [r0,(I 0)] (pc s ls k l (.arr (B.length+1) g 0 n 5) bf::(B++[[.arrv g 5 Ds]])) t1.pv (pc s ls k l (.arr (B.length+1) g 0 n 5) bf::(B++[[.arrv g 5 Ds]])))(c1:((t1.a:Nat):Int)≠bf):E 63 [r0,(N c),(.str tx)] (pc s ls k l (.arr (B.length+1) g 0 n 5) bf::(B++[[.arrv g 5 Ds]])) (.tuple []) (pc s ls k l (.arr (B.length+1) (g+1) 0 (n+1) 5) ((t1.a:Nat):Int)::(B++[[.arrv (g+1) 5 (Ds++[(.agg [(N c),(N t1.a),(N t1.e),(.str tx),.nils])])]])):=
 rule R53 [st 1 (oW h1),st 8 (PS (pc s ls k l (.arr (B.length+1) g 0 n 5) bf::(B++[[.arrv g 5 Ds]])) (AjJ .i64 c1)),st 14 (appA_arr rfl hn hm:OpEv pur run (.w (.appA 5)) [(.arr (B.length+1) g 0 n 5),(.slice true 5 [(.agg [(N c),(N t1.a),(N t1.e),(.str tx),.nils])])] (pc s ls k l (.arr (B.length+1) g 0 n 5) bf::(B++[[.arrv g 5 Ds]])) [some (.arr (B.length+1) (g+1) 0 (n+1) 5)] (pc s ls k l (.arr (B.length+1) g 0 n 5) bf::(B++[[.arrv (g+1) 5 (Ds++[(.agg [(N c),(N t1.a),(N t1.e),(.str tx),.nils])])]]))),st 2 (stW (by first | rfl | exact hw):OpEv pur run (.w (.st 1)) [(.ref 0 4),(.arr (B.length+1) (g+1) 0 (n+1) 5)] (pc s ls k l (.arr (B.length+1) g 0 n 5) bf::(B++[[.arrv (g+1) 5 (Ds++[(.agg [(N c),(N t1.a),(N t1.e),(.str tx),.nils])])]])) [] (pc s ls k l (.arr (B.length+1) (g+1) 0 (n+1) 5) bf::(B++[[.arrv (g+1) 5 (Ds++[(.agg [(N c),(N t1.a),(N t1.e),(.str tx),.nils])])]]))),st 5 (stB (by first | rfl | exact hw):OpEv pur run (.w (.st 1)) [(.ref 0 5),(N t1.a)] (pc s ls k l (.arr (B.length+1) (g+1) 0 (n+1) 5) bf::(B++[[.arrv (g+1) 5 (Ds++[(.agg [(N c),(N t1.a),(N t1.e),(.str tx),.nils])])]])) [] (pc s ls k l (.arr (B.length+1) (g+1) 0 (n+1) 5) ((t1.a:Nat):Int)::(B++[[.arrv (g+1) 5 (Ds++[(.agg [(N c),(N t1.a),(N t1.e),(.str tx),.nils])])]])))]
theorem r53a_2{g:Nat}(hn:Ds.length=n)(hm:n+1≤AqC){t1:Tk}(h1:E 57 [r0,(I 0)] (pc s ls k l (.arr (B.length+1) g 0 n 5) bf::(B++[[.arrv g 5 Ds]])) t1.pv (pc s ls k l (.arr (B.length+1) g 0 n 5) bf::(B++[[.arrv g 5 Ds]])))(c1:((t1.a:Nat):Int)=bf):E 63 [r0,(N c),(.str tx)] (pc s ls k l (.arr (B.length+1) g 0 n 5) bf::(B++[[.arrv g 5 Ds]])) (.tuple []) (pc s ls k l (.arr (B.length+1) g 0 n 5) ((t1.a:Nat):Int)::(B++[[.arrv g 5 Ds]])):=
 rule R53 [st 1 (oW h1),st 8 (PS (pc s ls k l (.arr (B.length+1) g 0 n 5) bf::(B++[[.arrv g 5 Ds]])) (AQ4 .i64 c1)),st 6 (stB (by first | rfl | exact hw):OpEv pur run (.w (.st 1)) [(.ref 0 5),(N t1.a)] (pc s ls k l (.arr (B.length+1) g 0 n 5) bf::(B++[[.arrv g 5 Ds]])) [] (pc s ls k l (.arr (B.length+1) g 0 n 5) ((t1.a:Nat):Int)::(B++[[.arrv g 5 Ds]])))]
end Go.Abs.Z
