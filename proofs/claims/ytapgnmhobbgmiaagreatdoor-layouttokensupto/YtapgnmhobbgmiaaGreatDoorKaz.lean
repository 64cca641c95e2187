/- A part of the proof: W1 D2 D8 W2. -/
import Derived.Test.YtapgnmhobbgmiaaGreatDoorKay

set_option linter.unusedVariables false
set_option linter.unusedSimpArgs false
namespace Go.Abs.Z
open PV
open Go.Proofs Go.RowKit
variable{s s1 w s2 tx:List UInt8}{ls:List Tk}{k l j m1 fi la m2 k1 l1 q c n:Nat}{wr:PV}{bf kd bf1:Int}{T σ σ' σ1 σ2 σ3 σ4 σ5 σ6 B:Sto}{t1:Tk}{b1:Bool}{e:Cu}{ff':FF}{c2:UInt8}{us ts1:List Tr}{U1 U2 U3 U4:Tr}{es1 Ds:List PV}{g:FuncId}
theorem R47:Rn 152 a152:=fun _ _ _=>rfl
theorem r47(l1:k<2000000000)(l2:j<2000000000)(l3:1≤ls.length)(l4:ls.length<2000000000)(g1:ls[min (k+j) (ls.length - 1)]?=some t1):E 152 [r0,N j] (pc s ls k l wr bf::T) (.agg [N t1.k,N t1.f,N t1.a,N t1.e]) (pc s ls k l wr bf::T):=
 rule R47 [sp 10 (AB k j l1 l2),sp 4 (FL false 4 ls),sp 0 (iI ls.length 1 l3 l4),sp 0 (xQ (k+j) (ls.length - 1)),sp 0 (BO (o:=false) (s:=4) (min (k+j) (ls.length - 1)) g1)]
theorem BQJ:Rn 225 Bw6:=fun _ _ _=>rfl
theorem BjS{t:Tk}(x1:Be (.ssl true true) [.str s,N t.a,N t.e]=some [some (.str s1)]):E 225 [r0,t.pv] (pc s ls k l wr bf::T) (.str s1) (pc s ls k l wr bf::T):=
 rule BQJ [sp 10 x1]
theorem R49:Rn 154 a154:=fun _ _ _=>rfl
theorem r49{j:Int}(h1:E 152 [r0,I 0] σ t1.pv σ):E 154 [r0,I j] σ (.bool ((t1.k:Int)==j)) σ:=
 rule R49 [st 2 (oW h1)]
theorem R50:Rn 155 BwG:=fun _ _ _=>rfl
theorem AV2{ws:List (List UInt8)}(h1:E 152 [r0,I 0] σ t1.pv σ)(c1:(t1.k:Int)=1)(h2:E 225 [r0,t1.pv] σ (.str s1) σ)(h3:E 224 [.slice false 1 (ws.map PV.str),.str s1] [] (.bool b1) []):E 155 [r0,.slice false 1 (ws.map PV.str)] σ (.bool b1) σ:=
 rule R50 [st 2 (oW h1),sp 4 (BJ .i64 c1),sg 9 (oW h2),sg 0 (oCS σ h3)]
theorem AV1{ws:List (List UInt8)}(h1:E 152 [r0,I 0] σ t1.pv σ)(c1:(t1.k:Int)≠1)(c2:(t1.k:Int)=3)(h2:E 225 [r0,t1.pv] σ (.str s1) σ)(h3:E 224 [.slice false 1 (ws.map PV.str),.str s1] [] (.bool b1) []):E 155 [r0,.slice false 1 (ws.map PV.str)] σ (.bool b1) σ:=
 rule R50 [st 2 (oW h1),sp 4 (AX .i64 c1),sq 3 (BJ .i64 c2),sg 5 (oW h2),sg 0 (oCS σ h3)]
theorem AV0{ws:List (List UInt8)}(h1:E 152 [r0,I 0] σ t1.pv σ)(c1:(t1.k:Int)≠1)(c2:(t1.k:Int)≠3):E 155 [r0,.slice false 1 (ws.map PV.str)] σ (.bool false) σ:=
 rule R50 [st 2 (oW h1),sp 4 (AX .i64 c1),sq 3 (AX .i64 c2)]
theorem BQK:Rn 224 Bw7:=fun _ _ _=>rfl
theorem AW9{ws:List (List UInt8)}{z1:Int}(h1:E 257 [.slice false 1 (ws.map PV.str),.str w] [] (I z1) []):E 224 [.slice false 1 (ws.map PV.str),.str w] [] (.bool (decide (z1≥0))) []:=
 rule BQK [st 3 (oC h1)]
theorem BxP:Rn 257 Zj:=fun _ _ _=>rfl
theorem AkE{ws:List (List UInt8)}(L1:LL Zj 0 [(0,slice false 1 (ws.map PV.str)),(1,str w),(7,N ws.length),(8,I 0)] [] (.exit 0) [(0,slice false 1 (ws.map PV.str))] []):E 257 [.slice false 1 (ws.map PV.str),.str w] [] (I (-1)) []:=
 rule BxP [sp 2 (MN false 1 ws),sl 1 [0,1,7,8] L1]
theorem AkD{ws:List (List UInt8)}(L1:LL Zj 0 [(0,slice false 1 (ws.map PV.str)),(1,str w),(7,N ws.length),(8,I 0)] [] .ret [(4,N m1)] []):E 257 [.slice false 1 (ws.map PV.str),.str w] [] (N m1) []:=
 rule BxP [sp 2 (MN false 1 ws),sl 1 [0,1,7,8] L1]
theorem Yf{ws:List (List UInt8)}(c1:¬(m1:Int) < (ws.length:Int)):LL Zj 0 [(0,slice false 1 (ws.map PV.str)),(1,str w),(7,N ws.length),(8,N m1)] [] (.exit 0) [(0,slice false 1 (ws.map PV.str))] []:=
 BA [0] [sp 0 (BN .i64 c1)]
theorem Ye{ws:List (List UInt8)}(c1:(m1:Int) < (ws.length:Int))(g1:ws[m1]?=some s1)(c2:w=s1):LL Zj 0 [(0,slice false 1 (ws.map PV.str)),(1,str w),(7,N ws.length),(8,N m1)] [] .ret [(4,N m1)] []:=
 BA [4] [sp 0 (AQ .i64 c1),sp 6 (PH (o:=false) (s:=1) m1 g1),sp 1 (Hr c2)]
theorem NP{ws:List (List UInt8)}(c1:(m1:Int) < (ws.length:Int))(g1:ws[m1]?=some s1)(c2:w≠s1)(l1:m1<2000000000)(hl:LL Zj 0 [(0,slice false 1 (ws.map PV.str)),(1,str w),(7,N ws.length),(8,N (m1+1))] [] e ff' σ'):LL Zj 0 [(0,slice false 1 (ws.map PV.str)),(1,str w),(7,N ws.length),(8,N m1)] [] e ff' σ':=
 BM [0,1,7,8] [sp 0 (AQ .i64 c1),sp 6 (PH (o:=false) (s:=1) m1 g1),sp 1 (Ip c2),sp 1 (AB m1 1 l1)] hl
theorem R76:Rn 235 Bw3:=fun _ _ _=>rfl
theorem r76(hw:wr.isSelf=false){t1:Tk}{s1:List UInt8}(h1:E 152 [r0,I 0] (pc s ls k l wr bf::T) t1.pv (pc s ls k l wr bf::T))(l1:k<2000000000)(h2:E 225 [r0,t1.pv] (pc s ls (k+1) t1.e wr bf::T) (.str s1) (pc s ls (k+1) t1.e wr bf::T)):E 235 [r0] (pc s ls k l wr bf::T) (.str s1) (pc s ls (k+1) t1.e wr bf::T):=
 rule R76 [st 2 (oW h1),sp 8 (AB k 1 l1),st 4 (stK (by first | rfl | exact hw):Bh pur run (.w (.st 1)) [.ref 0 2,N (k+1)] (pc s ls k l wr bf::T) [] (pc s ls (k+1) l wr bf::T)),st 2 (stL (by first | rfl | exact hw):Bh pur run (.w (.st 1)) [.ref 0 3,N t1.e] (pc s ls (k+1) l wr bf::T) [] (pc s ls (k+1) t1.e wr bf::T)),st 2 (oW h2)]
theorem R75:Rn 226 a226:=fun _ _ _=>rfl
theorem r75:E 226 [r0] (pc s ls k l wr bf::T) (.tuple [N k,N l]) (pc s ls k l wr bf::T):=
 rule R75 []
theorem BxW:Rn 258 Bw2:=fun _ _ _=>rfl
theorem fB(h1:Hw [.str w] σ true)(h2:Hs 235 σ s1 σ1):Hb 258 w σ true σ1:=
 rule BxW [st 4 (Ct h1:Bh pur run (.w (.call 155)) [r0,.slice true 1 [.str w]] σ [some (.bool true)] σ),st 3 (oW h2)]
theorem Av0(h1:Hw [.str w] σ false):Hb 258 w σ false σ:=
 rule BxW [st 4 (Ct h1:Bh pur run (.w (.call 155)) [r0,.slice true 1 [.str w]] σ [some (.bool false)] σ)]
theorem Bz2:Rn 227 a227:=fun _ _ _=>rfl
theorem fC(h1:Hb 258 w σ true σ1):Hq 227 w σ σ1:=
 rule Bz2 [st 2 (oW h1)]
theorem AvU(h1:Hb 258 w σ false σ1)(h2:E 158 [r0,I 4,.str w] σ1 (.tuple []) σ2):Hq 227 w σ σ2:=
 rule Bz2 [st 2 (oW h1),st 4 (oW h2)]
theorem Bz1:Rn 228 a228:=fun _ _ _=>rfl
theorem AvT(h1:Hi 0 σ true)(h2:Hs 235 σ s1 σ1):Hs 228 σ s1 σ1:=
 rule Bz1 [st 2 (oW h1),st 2 (oW h2)]
theorem AvS(h1:Hi 0 σ false)(h2:E 158 [r0,I 4,.str [110,97,109,101]] σ (.tuple []) σ1):Hs 228 σ [] σ1:=
 rule Bz1 [st 2 (oW h1),st 2 (oW h2)]
theorem BxN:Rn 262 BvY:=fun _ _ _=>rfl
theorem o9(h1:Hi 2 σ true)(h2:Hs 235 σ s1 σ1)(h3:E 270 [.str s1] [] (.str s2) []):Hs 262 σ s2 σ1:=
 rule BxN [st 2 (oW h1),st 2 (oW h2),st 0 (oCS σ1 h3)]
theorem AkA(h1:Hi 2 σ false)(h2:E 158 [r0,I 4,.str [110,117,109,98,101,114]] σ (.tuple []) σ1):Hs 262 σ [] σ1:=
 rule BxN [st 2 (oW h1),st 2 (oW h2)]
theorem AQR:Rn 270 BvX:=fun _ _ _=>rfl
theorem AjI(h1:E 29 [.str w,.str [48]] [] (.str s1) [])(c1:s1≠[]):E 270 [.str w] [] (.str s1) []:=
 rule AQR [st 2 (oC h1),sp 2 (oO c1)]
theorem AjH(h1:E 29 [.str w,.str [48]] [] (.str s1) [])(c1:s1=[])(c2:w=[]):E 270 [.str w] [] (.str s1) []:=
 rule AQR [st 2 (oC h1),sp 2 (Oo c1),sq 2 (Hr c2)]
theorem AjG(h1:E 29 [.str w,.str [48]] [] (.str s1) [])(c1:s1=[])(c2:w≠[]):E 270 [.str w] [] (.str [48]) []:=
 rule AQR [st 2 (oC h1),sp 2 (Oo c1),sq 2 (Ip c2)]
theorem BxJ:Rn 29 a29:=fun _ _ _=>rfl
theorem AjF(c1:w=[]):E 29 [.str w,.str [48]] [] (.str w) []:=
 rule BxJ [sp 2 (Hr c1)]
theorem AjE(c1:w≠[])(h1:E 74 [.str w,.int .u8 48] [] (.str s1) []):E 29 [.str w,.str [48]] [] (.str s1) []:=
 rule BxJ [sp 2 (Ip c1),st 17 (oC h1)]
theorem BQ4:Rn 74 a74:=fun _ _ _=>rfl
theorem BjD(L1:LL a74 0 [(0,str w),(1,int .u8 48)] [] (.exit 0) [(0,str s1)] []):E 74 [.str w,.int .u8 48] [] (.str s1) []:=
 rule BQ4 [sl 1 [0,1] L1]
theorem X0(c1:¬(s1.length:Int) > 0):LL a74 0 [(0,str s1),(1,int .u8 48)] [] (.exit 0) [(0,str s1)] []:=
 BA [0] [sp 2 (DI .i64 c1)]
theorem UV(c1:(s1.length:Int) > 0)(g1:(s1:List UInt8)[0]?=some c2)(c3:(c2.toNat:Int)=48)(x1:Be (.ssl true false) [.str s1,I 1]=some [some (.str s2)])(hl:LL a74 0 [(0,str s2),(1,int .u8 48)] [] e ff' σ'):LL a74 0 [(0,str s1),(1,int .u8 48)] [] e ff' σ':=
 BM [0,1] [sp 2 (CX .i64 c1),sq 2 (Bg _ 0 _ g1),sq 1 (BJ .u8 c3),sp 3 x1] hl
theorem XZ(c1:(s1.length:Int) > 0)(g1:(s1:List UInt8)[0]?=some c2)(c3:(c2.toNat:Int)≠48):LL a74 0 [(0,str s1),(1,int .u8 48)] [] (.exit 0) [(0,str s1)] []:=
 BA [0] [sp 2 (CX .i64 c1),sq 2 (Bg _ 0 _ g1),sq 1 (AX .u8 c3)]
theorem R78:Rn 231 Bw4:=fun _ _ _=>rfl
theorem AzU(c1:(k:Int) > (fi:Int))(g1:ls[fi]?=some t1):E 231 [r0,I kd,.str tx,N fi,N la,.nils] (pc s ls k l wr bf::T) (.agg [I kd,.str tx,N t1.a,N l,.nils]) (pc s ls k l wr bf::T):=
 rule R78 [sp 14 (CX .i64 c1),sp 6 (BO (o:=false) (s:=4) fi g1)]
theorem AzT(c1:¬(k:Int) > (fi:Int)):E 231 [r0,I kd,.str tx,N fi,N la,.nils] (pc s ls k l wr bf::T) (.agg [I kd,.str tx,N la,N la,.nils]) (pc s ls k l wr bf::T):=
 rule R78 [sp 14 (DI .i64 c1)]
theorem AK6(c1:(k:Int) > (fi:Int))(g1:ls[fi]?=some t1)(c2:(us.length:Int) > 0)(g2:us[0]?=some U1):E 231 [r0,I kd,.str tx,N fi,N la,.slice false 5 (Tr.pvs us)] (pc s ls k l wr bf::T) (.agg [I kd,.str tx,I (min (t1.a:Int) U1.st),N l,.slice false 5 (Tr.pvs us)]) (pc s ls k l wr bf::T):=
 rule R78 [sp 14 (CX .i64 c1),sp 6 (BO (o:=false) (s:=4) fi g1),sp 11 (FZ false 5 us),sp 0 (CX .i64 c2),sp 4 (Gn (o:=false) (s:=5) 0 g2),sp 0 (EB U1),sp 1 (AWN (t1.a:Int) U1.st)]
theorem AK5(c1:¬(k:Int) > (fi:Int))(c2:(us.length:Int) > 0)(g1:us[0]?=some U1):E 231 [r0,I kd,.str tx,N fi,N la,.slice false 5 (Tr.pvs us)] (pc s ls k l wr bf::T) (.agg [I kd,.str tx,I (min (la:Int) U1.st),N la,.slice false 5 (Tr.pvs us)]) (pc s ls k l wr bf::T):=
 rule R78 [sp 14 (DI .i64 c1),sp 2 (FZ false 5 us),sp 0 (CX .i64 c2),sp 4 (Gn (o:=false) (s:=5) 0 g1),sp 0 (EB U1),sp 1 (AWN (la:Int) U1.st)]
theorem BQF:Rn 261 BvZ:=fun _ _ _=>rfl
theorem BjO(h1:Hp σ m1 m2)(h2:Hm 0 [] m1 m2 .nils σ U1):Ht 261 σ U1 σ:=
 Bt BQF [st 2 (oW h1),st 8 (oW h2),st 0 (zl σ U1)] (rz 2 U1)
theorem BQD:Rn 259 Bw1:=fun _ _ _=>rfl
theorem BjL(h1:Hp σ m1 m2)(h2:Hm 1 [] m1 m2 .nils σ U1):Ht 259 σ U1 σ:=
 Bt BQD [st 2 (oW h1),st 8 (oW h2),st 0 (zl σ U1)] (rz 2 U1)
theorem R51:Rn 156 a156:=fun _ _ _=>rfl
theorem r51(h1:Hp σ m1 m2)(h2:Hq 227 [114,101,99,111,114,100] σ σ1)(h3:Hs 228 σ1 s1 σ2)(h4:Hq 227 [123] σ2 σ3)(h5:E 229 [r0,.func 230 [r0] []] σ3 (.slice false 5 (Tr.pvs ts1)) σ4)(h6:Hq 227 [125] σ4 σ5)(h7:Hm 3 s1 m1 m2 (.slice false 5 (Tr.pvs ts1)) σ5 U1):Ht 156 σ U1 σ5:=
 Bt R51 [st 2 (oW h1),st 6 (oW h2),st 1 (oW h3),st 2 (oW h4),st 3 (oW h5),st 2 (oW h6),st 5 (oW h7),st 0 (zl σ5 U1)] (rz 2 U1)
theorem Bz0:Rn 230 Bw5:=fun _ _ _=>rfl
theorem AvR{m3:Nat}{m4:Nat}(h1:Hp σ m1 m2)(h2:Hs 228 σ s1 σ1)(h3:Hq 227 [58] σ1 σ2)(h4:Hw [.str [105,110,116],.str [98,111,111,108]] σ2 true)(h5:Hp σ2 m3 m4)(h6:Hs 235 σ2 s2 σ3)(h7:Hm 9 s2 m3 m4 .nils σ3 U1)(h8:Hm 4 s1 m1 m2 (.slice false 5 [U1.pv]) σ3 U2):Ht 230 σ U2 σ3:=
 Bt Bz0 [st 2 (oW h1),st 6 (oW h2),st 2 (oW h3),st 2 (Ct h4:Bh pur run (.w (.call 155)) [r0,.slice true 1 [.str [105,110,116],.str [98,111,111,108]]] σ2 [some (.bool true)] σ2),st 2 (oW h5),st 6 (oW h6),st 9 (oW h7),st 0 (bz1 σ3 U1),st 0 (wm h8),st 0 (zl σ3 U2)] (rz 2 U2)
theorem AvQ(h1:Hp σ m1 m2)(h2:Hs 228 σ s1 σ1)(h3:Hq 227 [58] σ1 σ2)(h4:Hw [.str [105,110,116],.str [98,111,111,108]] σ2 false)(h5:E 158 [r0,I 4,.str [116,121,112,101]] σ2 (.tuple []) σ3)(h6:Ht 259 σ3 U1 σ3)(h7:Hm 4 s1 m1 m2 (.slice false 5 [U1.pv]) σ3 U2):Ht 230 σ U2 σ3:=
 Bt Bz0 [st 2 (oW h1),st 6 (oW h2),st 2 (oW h3),st 2 (Ct h4:Bh pur run (.w (.call 155)) [r0,.slice true 1 [.str [105,110,116],.str [98,111,111,108]]] σ2 [some (.bool false)] σ2),st 2 (oW h5),st 1 (oW h6),sp 1 (BF U1),st 4 (QS σ3 (Bu U1)),st 0 (bz1 σ3 U1),st 0 (wm h7),st 0 (zl σ3 U2)] (rz 2 U2)
theorem R52:Rn 157 a157:=fun _ _ _=>rfl
theorem r52(h1:Hp σ m1 m2)(h2:Hq 227 [112,114,111,99] σ σ1)(h3:Hs 228 σ1 s1 σ2)(h4:Ht 232 σ2 U1 σ3)(h5:Ht 233 σ3 U2 σ4)(h6:Ht 234 σ4 U3 σ5)(h7:Hm 5 s1 m1 m2 (.slice false 5 [U1.pv,U2.pv,U3.pv]) σ5 U4):Ht 157 σ U4 σ5:=
 Bt R52 [st 2 (oW h1),st 6 (oW h2),st 1 (oW h3),st 2 (oW h4),sp 1 (BF U1),st 1 (oW h5),sp 1 (BF U2),st 1 (oW h6),sp 1 (BF U3),st 4 (QS σ5 (Bu U1)),st 0 (QS σ5 (Bu U2)),st 0 (QS σ5 (Bu U3)),st 0 (bz3 σ5 U1 U2 U3),st 0 (wm h7),st 0 (zl σ5 U4)] (rz 2 U4)
theorem BxZ:Rn 232 a232:=fun _ _ _=>rfl
theorem AvP(h1:Hp σ m1 m2)(h2:Hq 227 [40] σ σ1)(h3:Hw [.str [41]] σ1 true)(h4:Hq 227 [41] σ1 σ2)(h5:Hm 6 [] m1 m2 .nils σ2 U1):Ht 232 σ U1 σ2:=
 Bt BxZ [st 2 (oW h1),st 6 (oW h2),st 3 (Ct h3:Bh pur run (.w (.call 155)) [r0,.slice true 1 [.str [41]]] σ1 [some (.bool true)] σ1),st 3 (oW h4),st 4 (oW h5),st 0 (zl σ2 U1)] (rz 2 U1)
theorem AvO(h1:Hp σ m1 m2)(h2:Hq 227 [40] σ σ1)(h3:Hw [.str [41]] σ1 false)(h4:E 229 [r0,.func 260 [r0] []] σ1 (.slice false 5 (Tr.pvs ts1)) σ2)(h5:Hq 227 [41] σ2 σ3)(h6:Hm 6 [] m1 m2 (.slice false 5 (Tr.pvs ts1)) σ3 U1):Ht 232 σ U1 σ3:=
 Bt BxZ [st 2 (oW h1),st 6 (oW h2),st 3 (Ct h3:Bh pur run (.w (.call 155)) [r0,.slice true 1 [.str [41]]] σ1 [some (.bool false)] σ1),st 5 (oW h4),st 2 (oW h5),st 4 (oW h6),st 0 (zl σ3 U1)] (rz 2 U1)
theorem BxO:Rn 260 Bw0:=fun _ _ _=>rfl
theorem AkC(h1:Hp σ m1 m2)(h2:Hb 258 [118,97,114] σ true σ1)(h3:Hs 228 σ1 s1 σ2)(h4:Ht 233 σ2 U1 σ3)(h5:Hm 8 s1 m1 m2 (.slice false 5 [U1.pv]) σ3 U2):Ht 260 σ U2 σ3:=
 Bt BxO [st 2 (oW h1),st 7 (oW h2),st 3 (oW h3),st 2 (oW h4),sp 1 (BF U1),st 5 (QS σ3 (Bu U1)),st 0 (bz1 σ3 U1),st 0 (wm h5),st 0 (zl σ3 U2)] (rz 2 U2)
theorem AkB(h1:Hp σ m1 m2)(h2:Hb 258 [118,97,114] σ false σ1)(h3:Hs 228 σ1 s1 σ2)(h4:Ht 233 σ2 U1 σ3)(h5:Hm 7 s1 m1 m2 (.slice false 5 [U1.pv]) σ3 U2):Ht 260 σ U2 σ3:=
 Bt BxO [st 2 (oW h1),st 7 (oW h2),st 2 (oW h3),st 2 (oW h4),sp 1 (BF U1),st 5 (QS σ3 (Bu U1)),st 0 (bz1 σ3 U1),st 0 (wm h5),st 0 (zl σ3 U2)] (rz 2 U2)
theorem mP:Rn 233 a233:=fun _ _ _=>rfl
theorem AvN(h1:Hb 258 [58] σ false σ1)(h2:Ht 261 σ1 U1 σ1):Ht 233 σ U1 σ1:=
 Bt mP [st 2 (oW h1),st 3 (oW h2),st 0 (zl σ1 U1)] (rz 2 U1)
theorem AvM(h1:Hb 258 [58] σ true σ1)(h2:Hp σ1 m1 m2)(h3:Hb 258 [105,110,116] σ1 true σ2)(h4:Hb 258 [91] σ2 true σ3)(h5:Hs 262 σ3 s1 σ4)(h6:Hq 227 [93] σ4 σ5)(h7:Hm 10 s1 m1 m2 .nils σ5 U1):Ht 233 σ U1 σ5:=
 Bt mP [st 2 (oW h1),st 3 (oW h2),st 6 (oW h3),st 3 (oW h4),st 3 (oW h5),st 2 (oW h6),st 4 (oW h7),st 0 (zl σ5 U1)] (rz 2 U1)
theorem AvL(h1:Hb 258 [58] σ true σ1)(h2:Hp σ1 m1 m2)(h3:Hb 258 [105,110,116] σ1 true σ2)(h4:Hb 258 [91] σ2 false σ3)(h5:Hm 9 [105,110,116] m1 m2 .nils σ3 U1):Ht 233 σ U1 σ3:=
 Bt mP [st 2 (oW h1),st 3 (oW h2),st 6 (oW h3),st 3 (oW h4),st 5 (oW h5),st 0 (zl σ3 U1)] (rz 2 U1)
theorem AvK(h1:Hb 258 [58] σ true σ1)(h2:Hp σ1 m1 m2)(h3:Hb 258 [105,110,116] σ1 false σ2)(h4:Hb 258 [98,111,111,108] σ2 true σ3)(h5:Hm 9 [98,111,111,108] m1 m2 .nils σ3 U1):Ht 233 σ U1 σ3:=
 Bt mP [st 2 (oW h1),st 3 (oW h2),st 6 (oW h3),st 3 (oW h4),st 5 (oW h5),st 0 (zl σ3 U1)] (rz 2 U1)
theorem AvJ(h1:Hb 258 [58] σ true σ1)(h2:Hp σ1 m1 m2)(h3:Hb 258 [105,110,116] σ1 false σ2)(h4:Hb 258 [98,111,111,108] σ2 false σ3)(h5:Hi 0 σ3 true)(h6:Hs 235 σ3 s1 σ4)(h7:Hm 9 s1 m1 m2 .nils σ4 U1):Ht 233 σ U1 σ4:=
 Bt mP [st 2 (oW h1),st 3 (oW h2),st 6 (oW h3),st 3 (oW h4),st 3 (oW h5),st 3 (oW h6),st 5 (oW h7),st 0 (zl σ4 U1)] (rz 2 U1)
theorem AvI(h1:Hb 258 [58] σ true σ1)(h2:Hp σ1 m1 m2)(h3:Hb 258 [105,110,116] σ1 false σ2)(h4:Hb 258 [98,111,111,108] σ2 false σ3)(h5:Hi 0 σ3 false)(h6:E 158 [r0,I 4,.str [116,121,112,101]] σ3 (.tuple []) σ4)(h7:Ht 259 σ4 U1 σ4):Ht 233 σ U1 σ4:=
 Bt mP [st 2 (oW h1),st 3 (oW h2),st 6 (oW h3),st 3 (oW h4),st 3 (oW h5),st 3 (oW h6),st 1 (oW h7),st 0 (zl σ4 U1)] (rz 2 U1)
theorem R82:Rn 277 BvQ:=fun _ _ _=>rfl
theorem r82(h1:Hw [.str [125],.str [112,114,111,99],.str [114,101,99,111,114,100],.str [118,97,114],.str [105,102],.str [119,104,105,108,101],.str [102,111,114],.str [114,101,116,117,114,110],.str [97,115,115,101,114,116]] σ b1):E 277 [r0] σ (.bool b1) σ:=
 rule R82 [st 3 (Ct h1:Bh pur run (.w (.call 155)) [r0,.slice true 1 [.str [125],.str [112,114,111,99],.str [114,101,99,111,114,100],.str [118,97,114],.str [105,102],.str [119,104,105,108,101],.str [102,111,114],.str [114,101,116,117,114,110],.str [97,115,115,101,114,116]]] σ [some (.bool b1)] σ)]
theorem R73:Rn 271 BvW:=fun _ _ _=>rfl
theorem r73(h1:Hp σ m1 m2)(h2:Hq 227 [118,97,114] σ σ1)(h3:Hs 228 σ1 s1 σ2)(h4:Ht 233 σ2 U1 σ3)(h5:Hq 227 [61] σ3 σ4)(h6:Ht 273 σ4 U2 σ5)(h7:Hq 227 [59] σ5 σ6)(h8:Hm 12 s1 m1 m2 (.slice false 5 [U1.pv,U2.pv]) σ6 U3):Ht 271 σ U3 σ6:=
 Bt R73 [st 2 (oW h1),st 6 (oW h2),st 1 (oW h3),st 2 (oW h4),sp 1 (BF U1),st 1 (oW h5),st 1 (oW h6),sp 1 (BF U2),st 1 (oW h7),st 4 (QS σ6 (Bu U1)),st 0 (QS σ6 (Bu U2)),st 0 (bz2 σ6 U1 U2),st 0 (wm h8),st 0 (zl σ6 U3)] (rz 2 U3)
theorem R74:Rn 272 BvV:=fun _ _ _=>rfl
theorem AKA(h1:Hp σ m1 m2)(h2:Hq 227 [105,102] σ σ1)(h3:Ht 273 σ1 U1 σ2)(h4:Ht 234 σ2 U2 σ3)(h5:Hb 258 [101,108,115,101] σ3 false σ4)(h6:Ht 261 σ4 U3 σ4)(h7:Hm 14 [] m1 m2 (.slice false 5 [U1.pv,U2.pv,U3.pv]) σ4 U4):Ht 272 σ U4 σ4:=
 Bt R74 [st 2 (oW h1),st 6 (oW h2),st 1 (oW h3),sp 1 (BF U1),st 1 (oW h4),sp 1 (BF U2),st 2 (oW h5),st 4 (oW h6),st 0 (zl σ4 U3),st 3 (QS σ4 (Bu U1)),st 0 (QS σ4 (Bu U2)),sp 0 (Ep U3),st 0 (bz3 σ4 U1 U2 U3),st 0 (wm h7),st 0 (zl σ4 U4)] (rz 2 U4)
theorem AK9(h1:Hp σ m1 m2)(h2:Hq 227 [105,102] σ σ1)(h3:Ht 273 σ1 U1 σ2)(h4:Ht 234 σ2 U2 σ3)(h5:Hb 258 [101,108,115,101] σ3 true σ4)(h6:Hw [.str [105,102]] σ4 true)(h7:Ht 272 σ4 U3 σ5)(h8:Hm 14 [] m1 m2 (.slice false 5 [U1.pv,U2.pv,U3.pv]) σ5 U4):Ht 272 σ U4 σ5:=
 Bt R74 [st 2 (oW h1),st 6 (oW h2),st 1 (oW h3),sp 1 (BF U1),st 1 (oW h4),sp 1 (BF U2),st 2 (oW h5),st 5 (Ct h6:Bh pur run (.w (.call 155)) [r0,.slice true 1 [.str [105,102]]] σ4 [some (.bool true)] σ4),st 3 (oW h7),st 0 (zl σ5 U3),st 3 (QS σ5 (Bu U1)),st 0 (QS σ5 (Bu U2)),sp 0 (Ep U3),st 0 (bz3 σ5 U1 U2 U3),st 0 (wm h8),st 0 (zl σ5 U4)] (rz 2 U4)
theorem AK8(h1:Hp σ m1 m2)(h2:Hq 227 [105,102] σ σ1)(h3:Ht 273 σ1 U1 σ2)(h4:Ht 234 σ2 U2 σ3)(h5:Hb 258 [101,108,115,101] σ3 true σ4)(h6:Hw [.str [105,102]] σ4 false)(h7:Ht 234 σ4 U3 σ5)(h8:Hm 14 [] m1 m2 (.slice false 5 [U1.pv,U2.pv,U3.pv]) σ5 U4):Ht 272 σ U4 σ5:=
 Bt R74 [st 2 (oW h1),st 6 (oW h2),st 1 (oW h3),sp 1 (BF U1),st 1 (oW h4),sp 1 (BF U2),st 2 (oW h5),st 5 (Ct h6:Bh pur run (.w (.call 155)) [r0,.slice true 1 [.str [105,102]]] σ4 [some (.bool false)] σ4),st 3 (oW h7),st 0 (zl σ5 U3),st 3 (QS σ5 (Bu U1)),st 0 (QS σ5 (Bu U2)),sp 0 (Ep U3),st 0 (bz3 σ5 U1 U2 U3),st 0 (wm h8),st 0 (zl σ5 U4)] (rz 2 U4)
theorem R79:Rn 274 BvT:=fun _ _ _=>rfl
theorem r79{σ7:Sto}(h1:Hp σ m1 m2)(h2:Hq 227 [102,111,114] σ σ1)(h3:Hs 228 σ1 s1 σ2)(h4:Hq 227 [61] σ2 σ3)(h5:Ht 273 σ3 U1 σ4)(h6:Hq 227 [116,111] σ4 σ5)(h7:Ht 273 σ5 U2 σ6)(h8:Ht 234 σ6 U3 σ7)(h9:Hm 16 s1 m1 m2 (.slice false 5 [U1.pv,U2.pv,U3.pv]) σ7 U4):Ht 274 σ U4 σ7:=
 Bt R79 [st 2 (oW h1),st 6 (oW h2),st 1 (oW h3),st 2 (oW h4),st 1 (oW h5),sp 1 (BF U1),st 1 (oW h6),st 1 (oW h7),sp 1 (BF U2),st 1 (oW h8),sp 1 (BF U3),st 4 (QS σ7 (Bu U1)),st 0 (QS σ7 (Bu U2)),st 0 (QS σ7 (Bu U3)),st 0 (bz3 σ7 U1 U2 U3),st 0 (wm h9),st 0 (zl σ7 U4)] (rz 2 U4)
theorem R80:Rn 275 BvS:=fun _ _ _=>rfl
theorem AK4(h1:Hp σ m1 m2)(h2:Hw [.str [114,101,116,117,114,110]] σ false)(h3:Hs 235 σ s1 σ1)(h4:Ht 273 σ1 U1 σ2)(h5:Hq 227 [59] σ2 σ3)(h6:Hm 18 [] m1 m2 (.slice false 5 [U1.pv]) σ3 U2):Ht 275 σ U2 σ3:=
 Bt R80 [st 2 (oW h1),st 8 (Ct h2:Bh pur run (.w (.call 155)) [r0,.slice true 1 [.str [114,101,116,117,114,110]]] σ [some (.bool false)] σ),st 2 (oW h3),st 10 (oW h4),st 0 (zl σ2 U1),st 1 (oW h5),sp 4 (Ep U1),st 0 (bz1 σ3 U1),st 0 (wm h6),st 0 (zl σ3 U2)] (rz 2 U2)
theorem AK3(h1:Hp σ m1 m2)(h2:Hw [.str [114,101,116,117,114,110]] σ true)(h3:Hs 235 σ s1 σ1)(h4:E 284 [r0] σ1 (.bool true) σ1)(h5:Ht 273 σ1 U1 σ2)(h6:Hq 227 [59] σ2 σ3)(h7:Hm 17 [] m1 m2 (.slice false 5 [U1.pv]) σ3 U2):Ht 275 σ U2 σ3:=
 Bt R80 [st 2 (oW h1),st 8 (Ct h2:Bh pur run (.w (.call 155)) [r0,.slice true 1 [.str [114,101,116,117,114,110]]] σ [some (.bool true)] σ),st 3 (oW h3),sg 5 (oW h4),st 4 (oW h5),st 0 (zl σ2 U1),st 1 (oW h6),sp 4 (Ep U1),st 0 (bz1 σ3 U1),st 0 (wm h7),st 0 (zl σ3 U2)] (rz 2 U2)
theorem AK2(h1:Hp σ m1 m2)(h2:Hw [.str [114,101,116,117,114,110]] σ true)(h3:Hs 235 σ s1 σ1)(h4:E 284 [r0] σ1 (.bool false) σ1)(h5:Ht 261 σ1 U1 σ1)(h6:Hq 227 [59] σ1 σ2)(h7:Hm 17 [] m1 m2 (.slice false 5 [U1.pv]) σ2 U2):Ht 275 σ U2 σ2:=
 Bt R80 [st 2 (oW h1),st 8 (Ct h2:Bh pur run (.w (.call 155)) [r0,.slice true 1 [.str [114,101,116,117,114,110]]] σ [some (.bool true)] σ),st 3 (oW h3),sg 5 (oW h4),st 4 (oW h5),st 0 (zl σ1 U1),st 1 (oW h6),sp 4 (Ep U1),st 0 (bz1 σ2 U1),st 0 (wm h7),st 0 (zl σ2 U2)] (rz 2 U2)
theorem AQU:Rn 284 BvO:=fun _ _ _=>rfl
theorem AkZ(h1:Hi 0 σ true):E 284 [r0] σ (.bool true) σ:=
 rule AQU [st 2 (oW h1)]
theorem AkY(h1:Hi 0 σ false)(h2:Hi 2 σ true):E 284 [r0] σ (.bool true) σ:=
 rule AQU [st 2 (oW h1),sg 2 (oW h2)]
theorem AkX(h1:Hi 0 σ false)(h2:Hi 2 σ false)(h3:Hw [.str [116,114,117,101],.str [102,97,108,115,101],.str [110,111,116],.str [108,101,110],.str [45],.str [40],.str [91]] σ b1):E 284 [r0] σ (.bool b1) σ:=
 rule AQU [st 2 (oW h1),sg 2 (oW h2),sg 4 (Ct h3:Bh pur run (.w (.call 155)) [r0,.slice true 1 [.str [116,114,117,101],.str [102,97,108,115,101],.str [110,111,116],.str [108,101,110],.str [45],.str [40],.str [91]]] σ [some (.bool b1)] σ)]
theorem R81:Rn 276 BvR:=fun _ _ _=>rfl
theorem AK1(h1:Hp σ m1 m2)(h2:Hb 285 [40] σ false σ)(h3:Ht 287 σ U1 σ1)(h4:Hq 227 [61] σ1 σ2)(h5:Ht 273 σ2 U2 σ3)(h6:Hq 227 [59] σ3 σ4)(h7:Hm 13 [] m1 m2 (.slice false 5 [U1.pv,U2.pv]) σ4 U3):Ht 276 σ U3 σ4:=
 Bt R81 [st 2 (oW h1),st 6 (oW h2),st 2 (oW h3),sp 1 (BF U1),st 1 (oW h4),st 1 (oW h5),sp 1 (BF U2),st 1 (oW h6),st 3 (QS σ4 (Bu U1)),st 0 (QS σ4 (Bu U2)),st 0 (bz2 σ4 U1 U2),st 0 (wm h7),st 0 (zl σ4 U3)] (rz 2 U3)
theorem AK0(h1:Hp σ m1 m2)(h2:Hb 285 [40] σ true σ)(h3:Hs 235 σ s1 σ1)(h4:E 286 [r0] σ1 .nils σ2)(h5:Hq 227 [59] σ2 σ3)(h6:Hm 19 s1 m1 m2 .nils σ3 U1):Ht 276 σ U1 σ3:=
 Bt R81 [st 2 (oW h1),st 6 (oW h2),st 2 (oW h3),st 2 (oW h4),st 2 (oW h5),st 5 (oW h6),st 0 (zl σ3 U1)] (rz 2 U1)
theorem AJZ(h1:Hp σ m1 m2)(h2:Hb 285 [40] σ true σ)(h3:Hs 235 σ s1 σ1)(h4:E 286 [r0] σ1 (.slice false 5 (Tr.pvs ts1)) σ2)(h5:Hq 227 [59] σ2 σ3)(h6:Hm 19 s1 m1 m2 (.slice false 5 (Tr.pvs ts1)) σ3 U1):Ht 276 σ U1 σ3:=
 Bt R81 [st 2 (oW h1),st 6 (oW h2),st 2 (oW h3),st 2 (oW h4),st 2 (oW h5),st 5 (oW h6),st 0 (zl σ3 U1)] (rz 2 U1)
theorem BQB:Rn 293 BvJ:=fun _ _ _=>rfl
theorem BjJ(h1:Hp σ m1 m2)(h2:Hs 228 σ s1 σ1)(h3:Hm 20 s1 m1 m2 .nils σ1 U1):Ht 293 σ U1 σ1:=
 Bt BQB [st 2 (oW h1),st 6 (oW h2),st 5 (oW h3),st 0 (zl σ1 U1)] (rz 2 U1)
theorem AQT:Rn 287 BvL:=fun _ _ _=>rfl
theorem AkS(h1:Hp σ m1 m2)(h2:Ht 293 σ U1 σ1)(h3:Hb 258 [91] σ1 true σ2)(h4:Ht 273 σ2 U2 σ3)(h5:Hq 227 [93] σ3 σ4)(h6:Hm 21 [] m1 m2 (.slice false 5 [U1.pv,U2.pv]) σ4 U3):Ht 287 σ U3 σ4:=
 Bt AQT [st 2 (oW h1),st 6 (oW h2),sp 1 (BF U1),st 1 (oW h3),st 3 (oW h4),sp 1 (BF U2),st 1 (oW h5),st 3 (QS σ4 (Bu U1)),st 0 (QS σ4 (Bu U2)),st 0 (bz2 σ4 U1 U2),st 0 (wm h6),st 0 (zl σ4 U3)] (rz 2 U3)
theorem AkR(h1:Hp σ m1 m2)(h2:Ht 293 σ U1 σ1)(h3:Hb 258 [91] σ1 false σ2)(h4:Hb 258 [46] σ2 true σ3)(h5:Hs 228 σ3 s1 σ4)(h6:Hm 22 s1 m1 m2 (.slice false 5 [U1.pv]) σ4 U2):Ht 287 σ U2 σ4:=
 Bt AQT [st 2 (oW h1),st 6 (oW h2),sp 1 (BF U1),st 1 (oW h3),st 3 (oW h4),st 3 (oW h5),st 5 (QS σ4 (Bu U1)),st 0 (bz1 σ4 U1),st 0 (wm h6),st 0 (zl σ4 U2)] (rz 2 U2)
theorem AkQ(h1:Hp σ m1 m2)(h2:Ht 293 σ U1 σ1)(h3:Hb 258 [91] σ1 false σ2)(h4:Hb 258 [46] σ2 false σ3):Ht 287 σ U1 σ3:=
 Bt AQT [st 2 (oW h1),st 6 (oW h2),sp 1 (BF U1),st 1 (oW h3),st 3 (oW h4),st 2 (QS σ3 (Bu U1)),st 0 (zl σ3 U1)] (rz 2 U1)
theorem R35:Rn 273 BvU:=fun _ _ _=>rfl
theorem r35(h1:E 282 [r0,.func 283 [r0] [],.slice false 1 [.str [111,114]]] σ U1.pv σ1):Ht 273 σ U1 σ1:=
 Bt R35 [st 5 (Ct h1 (by rfl) (by simp) (by simp) (by simp):Bh pur run (.w (.call 282)) [r0,.func 283 [r0] [],.slice true 1 [.str [111,114]]] σ [some U1.pv] σ1),st 0 (zl σ1 U1)] (rz 2 U1)
theorem R70:Rn 283 BvP:=fun _ _ _=>rfl
theorem r70(h1:E 282 [r0,.func 292 [r0] [],.slice false 1 [.str [97,110,100]]] σ U1.pv σ1):Ht 283 σ U1 σ1:=
 Bt R70 [st 5 (Ct h1 (by rfl) (by simp) (by simp) (by simp):Bh pur run (.w (.call 282)) [r0,.func 292 [r0] [],.slice true 1 [.str [97,110,100]]] σ [some U1.pv] σ1),st 0 (zl σ1 U1)] (rz 2 U1)
theorem AQV:Rn 292 BvK:=fun _ _ _=>rfl
theorem Av3(h1:Hp σ m1 m2)(h2:Hb 258 [110,111,116] σ true σ1)(h3:Ht 292 σ1 U1 σ2)(h4:Hm 28 [110,111,116] m1 m2 (.slice false 5 [U1.pv]) σ2 U2):Ht 292 σ U2 σ2:=
 Bt AQV [st 2 (oW h1),st 6 (oW h2),st 2 (oW h3),sp 1 (BF U1),st 3 (QS σ2 (Bu U1)),st 0 (bz1 σ2 U1),st 0 (wm h4),st 0 (zl σ2 U2)] (rz 2 U2)
theorem Av2(h1:Hp σ m1 m2)(h2:Hb 258 [110,111,116] σ false σ1)(h3:Ht 294 σ1 U1 σ2)(h4:Hw [.str [61,61],.str [33,61],.str [60],.str [60,61],.str [62],.str [62,61]] σ2 true)(h5:Hs 235 σ2 s1 σ3)(h6:Ht 294 σ3 U2 σ4)(h7:Hm 29 s1 m1 m2 (.slice false 5 [U1.pv,U2.pv]) σ4 U3):Ht 292 σ U3 σ4:=
 Bt AQV [st 2 (oW h1),st 6 (oW h2),st 2 (oW h3),sp 1 (BF U1),st 2 (Ct h4:Bh pur run (.w (.call 155)) [r0,.slice true 1 [.str [61,61],.str [33,61],.str [60],.str [60,61],.str [62],.str [62,61]]] σ2 [some (.bool true)] σ2),st 2 (oW h5),st 2 (oW h6),sp 1 (BF U2),st 4 (QS σ4 (Bu U1)),st 0 (QS σ4 (Bu U2)),st 0 (bz2 σ4 U1 U2),st 0 (wm h7),st 0 (zl σ4 U3)] (rz 2 U3)
theorem Av1(h1:Hp σ m1 m2)(h2:Hb 258 [110,111,116] σ false σ1)(h3:Ht 294 σ1 U1 σ2)(h4:Hw [.str [61,61],.str [33,61],.str [60],.str [60,61],.str [62],.str [62,61]] σ2 false):Ht 292 σ U1 σ2:=
 Bt AQV [st 2 (oW h1),st 6 (oW h2),st 2 (oW h3),sp 1 (BF U1),st 2 (Ct h4:Bh pur run (.w (.call 155)) [r0,.slice true 1 [.str [61,61],.str [33,61],.str [60],.str [60,61],.str [62],.str [62,61]]] σ2 [some (.bool false)] σ2),st 1 (QS σ2 (Bu U1)),st 0 (zl σ2 U1)] (rz 2 U1)
theorem BQC:Rn 294 BvI:=fun _ _ _=>rfl
theorem BjK(h1:E 282 [r0,.func 295 [r0] [],.slice false 1 [.str [43],.str [45]]] σ U1.pv σ1):Ht 294 σ U1 σ1:=
 Bt BQC [st 5 (Ct h1 (by rfl) (by simp) (by simp) (by simp):Bh pur run (.w (.call 282)) [r0,.func 295 [r0] [],.slice true 1 [.str [43],.str [45]]] σ [some U1.pv] σ1),st 0 (zl σ1 U1)] (rz 2 U1)
theorem BQ8:Rn 295 BvH:=fun _ _ _=>rfl
theorem BjG(h1:E 282 [r0,.func 296 [r0] [],.slice false 1 [.str [42],.str [47],.str [37]]] σ U1.pv σ1):Ht 295 σ U1 σ1:=
 Bt BQ8 [st 5 (Ct h1 (by rfl) (by simp) (by simp) (by simp):Bh pur run (.w (.call 282)) [r0,.func 296 [r0] [],.slice true 1 [.str [42],.str [47],.str [37]]] σ [some U1.pv] σ1),st 0 (zl σ1 U1)] (rz 2 U1)
theorem BxI:Rn 296 BvG:=fun _ _ _=>rfl
theorem AjD(h1:Hp σ m1 m2)(h2:Hb 258 [45] σ true σ1)(h3:Ht 296 σ1 U1 σ2)(h4:Hm 28 [45] m1 m2 (.slice false 5 [U1.pv]) σ2 U2):Ht 296 σ U2 σ2:=
 Bt BxI [st 2 (oW h1),st 6 (oW h2),st 2 (oW h3),sp 1 (BF U1),st 3 (QS σ2 (Bu U1)),st 0 (bz1 σ2 U1),st 0 (wm h4),st 0 (zl σ2 U2)] (rz 2 U2)
theorem AjC(h1:Hp σ m1 m2)(h2:Hb 258 [45] σ false σ1)(h3:Ht 297 σ1 U1 σ2):Ht 296 σ U1 σ2:=
 Bt BxI [st 2 (oW h1),st 6 (oW h2),st 2 (oW h3),st 0 (zl σ2 U1)] (rz 2 U1)
theorem Zm:Rn 297 BvF:=fun _ _ _=>rfl
theorem AjB(h1:Hp σ m1 m2)(h2:Hi 2 σ true)(h3:Hs 262 σ s1 σ1)(h4:Hm 24 s1 m1 m2 .nils σ1 U1):Ht 297 σ U1 σ1:=
 Bt Zm [st 2 (oW h1),st 6 (oW h2),st 3 (oW h3),st 5 (oW h4),st 0 (zl σ1 U1)] (rz 2 U1)
theorem AjA(h1:Hp σ m1 m2)(h2:Hi 2 σ false)(h3:Hw [.str [116,114,117,101],.str [102,97,108,115,101]] σ true)(h4:Hs 235 σ s1 σ1)(h5:Hm 25 s1 m1 m2 .nils σ1 U1):Ht 297 σ U1 σ1:=
 Bt Zm [st 2 (oW h1),st 6 (oW h2),st 4 (Ct h3:Bh pur run (.w (.call 155)) [r0,.slice true 1 [.str [116,114,117,101],.str [102,97,108,115,101]]] σ [some (.bool true)] σ),st 3 (oW h4),st 5 (oW h5),st 0 (zl σ1 U1)] (rz 2 U1)
theorem Aj9(h1:Hp σ m1 m2)(h2:Hi 2 σ false)(h3:Hw [.str [116,114,117,101],.str [102,97,108,115,101]] σ false)(h4:Hi 0 σ true)(h5:Hb 285 [40] σ false σ)(h6:Ht 287 σ U1 σ1):Ht 297 σ U1 σ1:=
 Bt Zm [st 2 (oW h1),st 6 (oW h2),st 4 (Ct h3:Bh pur run (.w (.call 155)) [r0,.slice true 1 [.str [116,114,117,101],.str [102,97,108,115,101]]] σ [some (.bool false)] σ),st 3 (oW h4),sg 2 (oW h5),st 4 (oW h4),st 3 (oW h6),st 0 (zl σ1 U1)] (rz 2 U1)
theorem Aj8(h1:Hp σ m1 m2)(h2:Hi 2 σ false)(h3:Hw [.str [116,114,117,101],.str [102,97,108,115,101]] σ false)(h4:Hi 0 σ false)(h5:Hb 258 [91] σ true σ1)(h6:E 229 [r0,.func 273 [r0] []] σ1 (.slice false 5 (Tr.pvs ts1)) σ2)(h7:Hq 227 [93] σ2 σ3)(h8:Hm 26 [] m1 m2 (.slice false 5 (Tr.pvs ts1)) σ3 U1):Ht 297 σ U1 σ3:=
 Bt Zm [st 2 (oW h1),st 6 (oW h2),st 4 (Ct h3:Bh pur run (.w (.call 155)) [r0,.slice true 1 [.str [116,114,117,101],.str [102,97,108,115,101]]] σ [some (.bool false)] σ),st 3 (oW h4),st 7 (oW h4),st 3 (oW h5),st 5 (oW h6),st 2 (oW h7),st 4 (oW h8),st 0 (zl σ3 U1)] (rz 2 U1)
theorem Aj7(h1:Hp σ m1 m2)(h2:Hi 2 σ false)(h3:Hw [.str [116,114,117,101],.str [102,97,108,115,101]] σ false)(h4:Hi 0 σ true)(h5:Hb 285 [40] σ true σ)(h6:Hs 235 σ s1 σ1)(h7:E 286 [r0] σ1 .nils σ2)(h8:Hm 27 s1 m1 m2 .nils σ2 U1):Ht 297 σ U1 σ2:=
 Bt Zm [st 2 (oW h1),st 6 (oW h2),st 4 (Ct h3:Bh pur run (.w (.call 155)) [r0,.slice true 1 [.str [116,114,117,101],.str [102,97,108,115,101]]] σ [some (.bool false)] σ),st 3 (oW h4),sg 2 (oW h5),st 4 (oW h6),st 2 (oW h7),st 6 (oW h8),st 0 (zl σ2 U1)] (rz 2 U1)
theorem Aj6(h1:Hp σ m1 m2)(h2:Hi 2 σ false)(h3:Hw [.str [116,114,117,101],.str [102,97,108,115,101]] σ false)(h4:Hi 0 σ true)(h5:Hb 285 [40] σ true σ)(h6:Hs 235 σ s1 σ1)(h7:E 286 [r0] σ1 (.slice false 5 (Tr.pvs ts1)) σ2)(h8:Hm 27 s1 m1 m2 (.slice false 5 (Tr.pvs ts1)) σ2 U1):Ht 297 σ U1 σ2:=
 Bt Zm [st 2 (oW h1),st 6 (oW h2),st 4 (Ct h3:Bh pur run (.w (.call 155)) [r0,.slice true 1 [.str [116,114,117,101],.str [102,97,108,115,101]]] σ [some (.bool false)] σ),st 3 (oW h4),sg 2 (oW h5),st 4 (oW h6),st 2 (oW h7),st 6 (oW h8),st 0 (zl σ2 U1)] (rz 2 U1)
theorem Aj5(h1:Hp σ m1 m2)(h2:Hi 2 σ false)(h3:Hw [.str [116,114,117,101],.str [102,97,108,115,101]] σ false)(h4:Hi 0 σ false)(h5:Hb 258 [91] σ false σ1)(h6:Hb 258 [108,101,110] σ1 true σ2)(h7:Hq 227 [40] σ2 σ3)(h8:Ht 293 σ3 U1 σ4)(h9:Hq 227 [41] σ4 σ5)(h10:Hm 23 [] m1 m2 (.slice false 5 [U1.pv]) σ5 U2):Ht 297 σ U2 σ5:=
 Bt Zm [st 2 (oW h1),st 6 (oW h2),st 4 (Ct h3:Bh pur run (.w (.call 155)) [r0,.slice true 1 [.str [116,114,117,101],.str [102,97,108,115,101]]] σ [some (.bool false)] σ),st 3 (oW h4),st 7 (oW h4),st 3 (oW h5),st 3 (oW h6),st 3 (oW h7),st 1 (oW h8),sp 1 (BF U1),st 1 (oW h9),st 3 (QS σ5 (Bu U1)),st 0 (bz1 σ5 U1),st 0 (wm h10),st 0 (zl σ5 U2)] (rz 2 U2)
theorem Aj4(h1:Hp σ m1 m2)(h2:Hi 2 σ false)(h3:Hw [.str [116,114,117,101],.str [102,97,108,115,101]] σ false)(h4:Hi 0 σ false)(h5:Hb 258 [91] σ false σ1)(h6:Hb 258 [108,101,110] σ1 false σ2)(h7:Hb 258 [40] σ2 true σ3)(h8:Ht 273 σ3 U1 σ4)(h9:Hq 227 [41] σ4 σ5):Ht 297 σ U1 σ5:=
 Bt Zm [st 2 (oW h1),st 6 (oW h2),st 4 (Ct h3:Bh pur run (.w (.call 155)) [r0,.slice true 1 [.str [116,114,117,101],.str [102,97,108,115,101]]] σ [some (.bool false)] σ),st 3 (oW h4),st 7 (oW h4),st 3 (oW h5),st 3 (oW h6),st 3 (oW h7),st 3 (oW h8),sp 1 (BF U1),st 1 (oW h9),st 0 (QS σ5 (Bu U1)),st 0 (zl σ5 U1)] (rz 2 U1)
theorem Aj3(h1:Hp σ m1 m2)(h2:Hi 2 σ false)(h3:Hw [.str [116,114,117,101],.str [102,97,108,115,101]] σ false)(h4:Hi 0 σ false)(h5:Hb 258 [91] σ false σ1)(h6:Hb 258 [108,101,110] σ1 false σ2)(h7:Hb 258 [40] σ2 false σ3)(h8:E 158 [r0,I 5,.str []] σ3 (.tuple []) σ4)(h9:Ht 259 σ4 U1 σ4):Ht 297 σ U1 σ4:=
 Bt Zm [st 2 (oW h1),st 6 (oW h2),st 4 (Ct h3:Bh pur run (.w (.call 155)) [r0,.slice true 1 [.str [116,114,117,101],.str [102,97,108,115,101]]] σ [some (.bool false)] σ),st 3 (oW h4),st 7 (oW h4),st 3 (oW h5),st 3 (oW h6),st 3 (oW h7),st 3 (oW h8),st 1 (oW h9),st 0 (zl σ4 U1)] (rz 2 U1)
theorem BxV:Rn 285 BvN:=fun _ _ _=>rfl
theorem AkW(h1:E 152 [r0,I 1] σ t1.pv σ)(c1:(t1.k:Int)=3)(h2:E 225 [r0,t1.pv] σ (.str s1) σ):E 285 [r0,.str w] σ (.bool (s1==w)) σ:=
 rule BxV [st 2 (oW h1),sp 4 (BJ .i64 c1),sg 3 (oW h2)]
theorem AkV(h1:E 152 [r0,I 1] σ t1.pv σ)(c1:(t1.k:Int)≠3):Hb 285 w σ false σ:=
 rule BxV [st 2 (oW h1),sp 4 (AX .i64 c1)]
theorem BxU:Rn 286 BvM:=fun _ _ _=>rfl
theorem AkU(h1:Hq 227 [40] σ σ1)(h2:Hw [.str [41]] σ1 true)(h3:Hq 227 [41] σ1 σ2):E 286 [r0] σ .nils σ2:=
 rule BxU [st 2 (oW h1),st 3 (Ct h2:Bh pur run (.w (.call 155)) [r0,.slice true 1 [.str [41]]] σ1 [some (.bool true)] σ1),st 3 (oW h3)]
theorem AkT(h1:Hq 227 [40] σ σ1)(h2:Hw [.str [41]] σ1 false)(h3:E 229 [r0,.func 273 [r0] []] σ1 (.slice false 5 (Tr.pvs ts1)) σ2)(h4:Hq 227 [41] σ2 σ3):E 286 [r0] σ (.slice false 5 (Tr.pvs ts1)) σ3:=
 rule BxU [st 2 (oW h1),st 3 (Ct h2:Bh pur run (.w (.call 155)) [r0,.slice true 1 [.str [41]]] σ1 [some (.bool false)] σ1),st 5 (oW h3),st 2 (oW h4)]
theorem R77:Rn 234 a234:=fun _ _ _=>rfl
theorem y7(h1:Hp σ m1 m2)(h2:Hb 258 [123] σ true σ1)(L1:LL a234 0 [(0,r0),(2,Z1),(3,N m1),(4,N m2),(5,nils)] σ1 (.exit 0) [(0,r0),(2,Z1),(3,N m1),(4,N m2),(5,Bw 5 es1)] σ2)(h3:Hq 227 [125] σ2 σ3)(h4:E 231 [r0,I 11,.str [],N m1,N m2,BG 5 es1] σ3 U1.pv σ3):Ht 234 σ U1 σ3:=
 Bt R77 [st 2 (oW h1),st 6 (oW h2),sl 3 [0,2,3,4,5] L1,st 1 (oW h3),sp 3 (qQ 5 es1),st 0 (oW h4),st 0 (zl σ3 U1)] (rz 2 U1)
theorem AK7(h1:Hp σ m1 m2)(h2:Hb 258 [123] σ false σ1)(h3:E 158 [r0,I 4,.str [123]] σ1 (.tuple []) σ2)(h4:Hm 11 [] m1 m2 .nils σ2 U1):Ht 234 σ U1 σ2:=
 Bt R77 [st 2 (oW h1),st 6 (oW h2),st 3 (oW h3),st 3 (oW h4),st 0 (zl σ2 U1)] (rz 2 U1)
theorem aa(h1:Hw [.str [125],.str [112,114,111,99],.str [114,101,99,111,114,100]] σ2 true):LL a234 0 [(0,r0),(2,Z1),(3,N m1),(4,N m2),(5,Bw 5 es1)] σ2 (.exit 0) [(0,r0),(2,Z1),(3,N m1),(4,N m2),(5,Bw 5 es1)] σ2:=
 BA [0,2,3,4,5] [st 2 (Ct h1:Bh pur run (.w (.call 155)) [r0,.slice true 1 [.str [125],.str [112,114,111,99],.str [114,101,99,111,114,100]]] σ2 [some (.bool true)] σ2)]
theorem Z9(h1:Hw [.str [125],.str [112,114,111,99],.str [114,101,99,111,114,100]] σ2 false)(h2:Hi 5 σ2 true):LL a234 0 [(0,r0),(2,Z1),(3,N m1),(4,N m2),(5,Bw 5 es1)] σ2 (.exit 0) [(0,r0),(2,Z1),(3,N m1),(4,N m2),(5,Bw 5 es1)] σ2:=
 BA [0,2,3,4,5] [st 2 (Ct h1:Bh pur run (.w (.call 155)) [r0,.slice true 1 [.str [125],.str [112,114,111,99],.str [114,101,99,111,114,100]]] σ2 [some (.bool false)] σ2),sg 3 (oW h2)]
theorem Xi(h1:Hw [.str [125],.str [112,114,111,99],.str [114,101,99,111,114,100]] σ2 false)(h2:Hi 5 σ2 false)(h3:Ht 263 σ2 U1 σ3)(l1:es1.length+1≤Bn)(hl:LL a234 0 [(0,r0),(2,Z1),(3,N m1),(4,N m2),(5,Bw 5 (es1++[U1.pv]))] σ3 e ff' σ'):LL a234 0 [(0,r0),(2,Z1),(3,N m1),(4,N m2),(5,Bw 5 es1)] σ2 e ff' σ':=
 BM [0,2,3,4,5] [st 2 (Ct h1:Bh pur run (.w (.call 155)) [r0,.slice true 1 [.str [125],.str [112,114,111,99],.str [114,101,99,111,114,100]]] σ2 [some (.bool false)] σ2),sg 3 (oW h2),sp 3 (KG 5 es1),st 1 (oW h3),st 0 (bz1 σ3 U1),st 0 (FV (Gr l1):Bh pur run (.p (.app 5)) [Bw 5 es1,.slice true 5 [U1.pv]] σ3 [some (Bw 5 (es1++[U1.pv])),some (BG 5 es1)] σ3),sp 0 (KG 5 (es1++[U1.pv]))] hl
theorem BQI:Rn 229 a229:=fun _ _ _=>rfl
theorem BjR(pg:pur g=false)(h1:E g [r0] σ U1.pv σ1)(L1:LL a229 0 [(0,r0),(1,func g [r0] []),(5,slice true 5 [U1.pv])] σ1 (.exit 0) [(1,func g [r0] []),(5,slice true 5 (Tr.pvs ts1))] σ2):E 229 [r0,.func g [r0] []] σ (.slice false 5 (Tr.pvs ts1)) σ2:=
 rule BQI [st 2 (NW h1 pg:Bh pur run (.w .calld) [.func g [r0] []] σ [some U1.pv] σ1),st 0 (bz1 σ1 U1),sl 1 [0,1,5] L1]
theorem Vp(h1:Hb 258 [44] σ2 true σ3)(pg:pur g=false)(h2:E g [r0] σ3 U1.pv σ4)(l1:ts1.length+1≤Bn)(hl:LL a229 0 [(0,r0),(1,func g [r0] []),(5,slice true 5 (Tr.pvs (ts1++[U1])))] σ4 e ff' σ'):LL a229 0 [(0,r0),(1,func g [r0] []),(5,slice true 5 (Tr.pvs ts1))] σ2 e ff' σ':=
 BM [0,1,5] [st 1 (oW h1),st 3 (NW h2 pg:Bh pur run (.w .calld) [.func g [r0] []] σ3 [some U1.pv] σ4),st 0 (bz1 σ4 U1),sp 0 (JN true U1 l1)] hl
theorem Yw(h1:Hb 258 [44] σ2 false σ3):LL a229 0 [(0,r0),(1,func g [r0] []),(5,slice true 5 (Tr.pvs ts1))] σ2 (.exit 0) [(1,func g [r0] []),(5,slice true 5 (Tr.pvs ts1))] σ3:=
 BA [1,5] [st 1 (oW h1)]
theorem R69:Rn 282 iw:=fun _ _ _=>rfl
theorem r69{ws:List (List UInt8)}(h1:Hp σ m1 m2)(pg:pur g=false)(h2:E g [r0] σ U1.pv σ1)(L1:LL iw 0 [(0,r0),(1,func g [r0] []),(2,slice false 1 (ws.map PV.str)),(6,Z1),(7,N m1),(8,N m2),(9,U1.pv)] σ1 (.exit 0) [(0,r0),(1,func g [r0] []),(6,Z1),(9,U2.pv)] σ2):E 282 [r0,.func g [r0] [],.slice false 1 (ws.map PV.str)] σ U2.pv σ2:=
 Bt R69 [st 2 (oW h1),st 6 (NW h2 pg:Bh pur run (.w .calld) [.func g [r0] []] σ [some U1.pv] σ1),st 1 (zl σ1 U1),sl 0 [0,1,2,6,7,8,9] L1,sp 0 (Ep U2),st 0 (zl σ2 U2)] (rz 6 U2)
theorem Xk{ws:List (List UInt8)}(h1:E 155 [r0,.slice false 1 (ws.map PV.str)] σ2 (.bool true) σ2)(h2:Hs 235 σ2 s1 σ3)(pg:pur g=false)(h3:E g [r0] σ3 U2.pv σ4)(h4:Hm 29 s1 m1 m2 (.slice false 5 [U1.pv,U2.pv]) σ4 U3)(hl:LL iw 0 [(0,r0),(1,func g [r0] []),(2,slice false 1 (ws.map PV.str)),(6,Z1),(7,N m1),(8,N m2),(9,U3.pv)] σ4 e ff' σ'):LL iw 0 [(0,r0),(1,func g [r0] []),(2,slice false 1 (ws.map PV.str)),(6,Z1),(7,N m1),(8,N m2),(9,U1.pv)] σ2 e ff' σ':=
 BM [0,1,2,6,7,8,9] [st 2 (oW h1),st 2 (oW h2),st 2 (NW h3 pg:Bh pur run (.w .calld) [.func g [r0] []] σ3 [some U2.pv] σ4),sp 1 (BF U2),sp 4 (Ep U1),st 0 (QS σ4 (Bu U2)),st 0 (bz2 σ4 U1 U2),st 0 (wm h4),sp 0 (He U1 U3)] hl
theorem ah{ws:List (List UInt8)}(h1:E 155 [r0,.slice false 1 (ws.map PV.str)] σ2 (.bool false) σ2):LL iw 0 [(0,r0),(1,func g [r0] []),(2,slice false 1 (ws.map PV.str)),(6,Z1),(7,N m1),(8,N m2),(9,U1.pv)] σ2 (.exit 0) [(0,r0),(1,func g [r0] []),(6,Z1),(9,U1.pv)] σ2:=
 BA [0,1,6,9] [st 2 (oW h1)]
theorem R38:Rn 263 Ru:=fun _ _ _=>rfl
theorem AVN(h1:Hw [.str [118,97,114]] σ true)(h2:Ht 271 σ U1 σ1):Ht 263 σ U1 σ1:=
 Bt R38 [st 3 (Ct h1:Bh pur run (.w (.call 155)) [r0,.slice true 1 [.str [118,97,114]]] σ [some (.bool true)] σ),st 3 (oW h2),st 0 (zl σ1 U1)] (rz 2 U1)
theorem AVM(h1:Hw [.str [118,97,114]] σ false)(h2:Hw [.str [105,102]] σ true)(h3:Ht 272 σ U1 σ1):Ht 263 σ U1 σ1:=
 Bt R38 [st 3 (Ct h1:Bh pur run (.w (.call 155)) [r0,.slice true 1 [.str [118,97,114]]] σ [some (.bool false)] σ),st 4 (Ct h2:Bh pur run (.w (.call 155)) [r0,.slice true 1 [.str [105,102]]] σ [some (.bool true)] σ),st 3 (oW h3),st 0 (zl σ1 U1)] (rz 2 U1)
theorem AVL(h1:Hw [.str [118,97,114]] σ false)(h2:Hw [.str [105,102]] σ false)(h3:Hw [.str [119,104,105,108,101]] σ true)(h4:Hp σ m1 m2)(h5:Hs 235 σ s1 σ1)(h6:Ht 273 σ1 U1 σ2)(h7:Ht 234 σ2 U2 σ3)(h8:Hm 15 [] m1 m2 (.slice false 5 [U1.pv,U2.pv]) σ3 U3):Ht 263 σ U3 σ3:=
 Bt R38 [st 3 (Ct h1:Bh pur run (.w (.call 155)) [r0,.slice true 1 [.str [118,97,114]]] σ [some (.bool false)] σ),st 4 (Ct h2:Bh pur run (.w (.call 155)) [r0,.slice true 1 [.str [105,102]]] σ [some (.bool false)] σ),st 4 (Ct h3:Bh pur run (.w (.call 155)) [r0,.slice true 1 [.str [119,104,105,108,101]]] σ [some (.bool true)] σ),st 3 (oW h4),st 6 (oW h5),st 1 (oW h6),sp 1 (BF U1),st 1 (oW h7),sp 1 (BF U2),st 3 (QS σ3 (Bu U1)),st 0 (QS σ3 (Bu U2)),st 0 (bz2 σ3 U1 U2),st 0 (wm h8),st 0 (zl σ3 U3)] (rz 2 U3)
theorem AVK(h1:Hw [.str [118,97,114]] σ false)(h2:Hw [.str [105,102]] σ false)(h3:Hw [.str [119,104,105,108,101]] σ false)(h4:Hw [.str [102,111,114]] σ true)(h5:Ht 274 σ U1 σ1):Ht 263 σ U1 σ1:=
 Bt R38 [st 3 (Ct h1:Bh pur run (.w (.call 155)) [r0,.slice true 1 [.str [118,97,114]]] σ [some (.bool false)] σ),st 4 (Ct h2:Bh pur run (.w (.call 155)) [r0,.slice true 1 [.str [105,102]]] σ [some (.bool false)] σ),st 4 (Ct h3:Bh pur run (.w (.call 155)) [r0,.slice true 1 [.str [119,104,105,108,101]]] σ [some (.bool false)] σ),st 4 (Ct h4:Bh pur run (.w (.call 155)) [r0,.slice true 1 [.str [102,111,114]]] σ [some (.bool true)] σ),st 3 (oW h5),st 0 (zl σ1 U1)] (rz 2 U1)
theorem za(h1:Hw [.str [118,97,114]] σ false)(h2:Hw [.str [105,102]] σ false)(h3:Hw [.str [119,104,105,108,101]] σ false)(h4:Hw [.str [102,111,114]] σ false)(h5:Hw [.str [114,101,116,117,114,110],.str [97,115,115,101,114,116]] σ true)(h6:Ht 275 σ U1 σ1):Ht 263 σ U1 σ1:=
 Bt R38 [st 3 (Ct h1:Bh pur run (.w (.call 155)) [r0,.slice true 1 [.str [118,97,114]]] σ [some (.bool false)] σ),st 4 (Ct h2:Bh pur run (.w (.call 155)) [r0,.slice true 1 [.str [105,102]]] σ [some (.bool false)] σ),st 4 (Ct h3:Bh pur run (.w (.call 155)) [r0,.slice true 1 [.str [119,104,105,108,101]]] σ [some (.bool false)] σ),st 4 (Ct h4:Bh pur run (.w (.call 155)) [r0,.slice true 1 [.str [102,111,114]]] σ [some (.bool false)] σ),st 4 (Ct h5:Bh pur run (.w (.call 155)) [r0,.slice true 1 [.str [114,101,116,117,114,110],.str [97,115,115,101,114,116]]] σ [some (.bool true)] σ),st 3 (oW h6),st 0 (zl σ1 U1)] (rz 2 U1)
theorem AVJ(h1:Hw [.str [118,97,114]] σ false)(h2:Hw [.str [105,102]] σ false)(h3:Hw [.str [119,104,105,108,101]] σ false)(h4:Hw [.str [102,111,114]] σ false)(h5:Hw [.str [114,101,116,117,114,110],.str [97,115,115,101,114,116]] σ false)(h6:Hi 0 σ true)(h7:Ht 276 σ U1 σ1):Ht 263 σ U1 σ1:=
 Bt R38 [st 3 (Ct h1:Bh pur run (.w (.call 155)) [r0,.slice true 1 [.str [118,97,114]]] σ [some (.bool false)] σ),st 4 (Ct h2:Bh pur run (.w (.call 155)) [r0,.slice true 1 [.str [105,102]]] σ [some (.bool false)] σ),st 4 (Ct h3:Bh pur run (.w (.call 155)) [r0,.slice true 1 [.str [119,104,105,108,101]]] σ [some (.bool false)] σ),st 4 (Ct h4:Bh pur run (.w (.call 155)) [r0,.slice true 1 [.str [102,111,114]]] σ [some (.bool false)] σ),st 4 (Ct h5:Bh pur run (.w (.call 155)) [r0,.slice true 1 [.str [114,101,116,117,114,110],.str [97,115,115,101,114,116]]] σ [some (.bool false)] σ),st 3 (oW h6),st 3 (oW h7),st 0 (zl σ1 U1)] (rz 2 U1)
theorem AVI(h1:Hw [.str [118,97,114]] σ false)(h2:Hw [.str [105,102]] σ false)(h3:Hw [.str [119,104,105,108,101]] σ false)(h4:Hw [.str [102,111,114]] σ false)(h5:Hw [.str [114,101,116,117,114,110],.str [97,115,115,101,114,116]] σ false)(h6:Hi 0 σ false)(h7:E 158 [r0,I 6,.str []] σ (.tuple []) σ1)(h8:Hp σ1 m1 m2)(L1:LL Ru 0 [(0,r0),(2,Z1),(7,N m1),(8,N m2)] σ1 (.exit 1) [(0,r0),(2,Z1),(7,N m1),(8,N m2)] σ2)(h9:Hm 1 [] m1 m2 .nils σ2 U1):Ht 263 σ U1 σ2:=
 Bt R38 [st 3 (Ct h1:Bh pur run (.w (.call 155)) [r0,.slice true 1 [.str [118,97,114]]] σ [some (.bool false)] σ),st 4 (Ct h2:Bh pur run (.w (.call 155)) [r0,.slice true 1 [.str [105,102]]] σ [some (.bool false)] σ),st 4 (Ct h3:Bh pur run (.w (.call 155)) [r0,.slice true 1 [.str [119,104,105,108,101]]] σ [some (.bool false)] σ),st 4 (Ct h4:Bh pur run (.w (.call 155)) [r0,.slice true 1 [.str [102,111,114]]] σ [some (.bool false)] σ),st 4 (Ct h5:Bh pur run (.w (.call 155)) [r0,.slice true 1 [.str [114,101,116,117,114,110],.str [97,115,115,101,114,116]]] σ [some (.bool false)] σ),st 3 (oW h6),st 3 (oW h7),st 1 (oW h8),sl 5 [0,2,7,8] L1,st 3 (oW h9),st 0 (zl σ2 U1)] (rz 2 U1)
theorem aR(h1:E 154 [r0,I 5] (pc s ls k1 l1 wr bf1::T) (.bool true) (pc s ls k1 l1 wr bf1::T)):LL Ru 0 [(0,r0),(2,Z1),(7,N m1),(8,N m2)] (pc s ls k1 l1 wr bf1::T) (.exit 1) [(0,r0),(2,Z1),(7,N m1),(8,N m2)] (pc s ls k1 l1 wr bf1::T):=
 BA [0,2,7,8] [st 1 (oW h1)]
theorem aQ(h1:E 154 [r0,I 5] (pc s ls k1 l1 wr bf1::T) (.bool false) (pc s ls k1 l1 wr bf1::T))(c1:(k1:Int)=(m1:Int))(h2:E 155 [r0,.slice false 1 [.str [125],.str [112,114,111,99],.str [114,101,99,111,114,100]]] (pc s ls k1 l1 wr bf1::T) (.bool true) (pc s ls k1 l1 wr bf1::T)):LL Ru 0 [(0,r0),(2,Z1),(7,N m1),(8,N m2)] (pc s ls k1 l1 wr bf1::T) (.exit 1) [(0,r0),(2,Z1),(7,N m1),(8,N m2)] (pc s ls k1 l1 wr bf1::T):=
 BA [0,2,7,8] [st 1 (oW h1),sq 7 (BJ .i64 c1),sp 12 (BJ .i64 c1),sg 3 (Ct h2:Bh pur run (.w (.call 155)) [r0,.slice true 1 [.str [125],.str [112,114,111,99],.str [114,101,99,111,114,100]]] (pc s ls k1 l1 wr bf1::T) [some (.bool true)] (pc s ls k1 l1 wr bf1::T))]
theorem aP(h1:E 154 [r0,I 5] (pc s ls k1 l1 wr bf1::T) (.bool false) (pc s ls k1 l1 wr bf1::T))(c1:(k1:Int)≠(m1:Int))(h2:E 277 [r0] (pc s ls k1 l1 wr bf1::T) (.bool true) (pc s ls k1 l1 wr bf1::T)):LL Ru 0 [(0,r0),(2,Z1),(7,N m1),(8,N m2)] (pc s ls k1 l1 wr bf1::T) (.exit 1) [(0,r0),(2,Z1),(7,N m1),(8,N m2)] (pc s ls k1 l1 wr bf1::T):=
 BA [0,2,7,8] [st 1 (oW h1),sq 7 (AX .i64 c1),sg 2 (oW h2)]
theorem aO(h1:E 154 [r0,I 5] (pc s ls k1 l1 wr bf1::T) (.bool false) (pc s ls k1 l1 wr bf1::T))(c1:(k1:Int)=(m1:Int))(h2:E 155 [r0,.slice false 1 [.str [125],.str [112,114,111,99],.str [114,101,99,111,114,100]]] (pc s ls k1 l1 wr bf1::T) (.bool false) (pc s ls k1 l1 wr bf1::T))(h3:E 235 [r0] (pc s ls k1 l1 wr bf1::T) (.str s1) σ2)(c2:s1=[59]):LL Ru 0 [(0,r0),(2,Z1),(7,N m1),(8,N m2)] (pc s ls k1 l1 wr bf1::T) (.exit 1) [(0,r0),(2,Z1),(7,N m1),(8,N m2)] σ2:=
 BA [0,2,7,8] [st 1 (oW h1),sq 7 (BJ .i64 c1),sp 12 (BJ .i64 c1),sg 3 (Ct h2:Bh pur run (.w (.call 155)) [r0,.slice true 1 [.str [125],.str [112,114,111,99],.str [114,101,99,111,114,100]]] (pc s ls k1 l1 wr bf1::T) [some (.bool false)] (pc s ls k1 l1 wr bf1::T)),sg 3 (oW h3),sq 0 (Hr c2)]
theorem XF(h1:E 154 [r0,I 5] (pc s ls k1 l1 wr bf1::T) (.bool false) (pc s ls k1 l1 wr bf1::T))(c1:(k1:Int)=(m1:Int))(h2:E 155 [r0,.slice false 1 [.str [125],.str [112,114,111,99],.str [114,101,99,111,114,100]]] (pc s ls k1 l1 wr bf1::T) (.bool false) (pc s ls k1 l1 wr bf1::T))(h3:E 235 [r0] (pc s ls k1 l1 wr bf1::T) (.str s1) σ2)(c2:s1≠[59])(hl:LL Ru 0 [(0,r0),(2,Z1),(7,N m1),(8,N m2)] σ2 e ff' σ'):LL Ru 0 [(0,r0),(2,Z1),(7,N m1),(8,N m2)] (pc s ls k1 l1 wr bf1::T) e ff' σ':=
 BM [0,2,7,8] [st 1 (oW h1),sq 7 (BJ .i64 c1),sp 12 (BJ .i64 c1),sg 3 (Ct h2:Bh pur run (.w (.call 155)) [r0,.slice true 1 [.str [125],.str [112,114,111,99],.str [114,101,99,111,114,100]]] (pc s ls k1 l1 wr bf1::T) [some (.bool false)] (pc s ls k1 l1 wr bf1::T)),sg 3 (oW h3),sq 0 (Ip c2)] hl
theorem aN(h1:E 154 [r0,I 5] (pc s ls k1 l1 wr bf1::T) (.bool false) (pc s ls k1 l1 wr bf1::T))(c1:(k1:Int)≠(m1:Int))(h2:E 277 [r0] (pc s ls k1 l1 wr bf1::T) (.bool false) (pc s ls k1 l1 wr bf1::T))(h3:E 235 [r0] (pc s ls k1 l1 wr bf1::T) (.str s1) σ2)(c2:s1=[59]):LL Ru 0 [(0,r0),(2,Z1),(7,N m1),(8,N m2)] (pc s ls k1 l1 wr bf1::T) (.exit 1) [(0,r0),(2,Z1),(7,N m1),(8,N m2)] σ2:=
 BA [0,2,7,8] [st 1 (oW h1),sq 7 (AX .i64 c1),sg 2 (oW h2),sp 9 (AX .i64 c1),sg 7 (oW h3),sq 0 (Hr c2)]
theorem XE(h1:E 154 [r0,I 5] (pc s ls k1 l1 wr bf1::T) (.bool false) (pc s ls k1 l1 wr bf1::T))(c1:(k1:Int)≠(m1:Int))(h2:E 277 [r0] (pc s ls k1 l1 wr bf1::T) (.bool false) (pc s ls k1 l1 wr bf1::T))(h3:E 235 [r0] (pc s ls k1 l1 wr bf1::T) (.str s1) σ2)(c2:s1≠[59])(hl:LL Ru 0 [(0,r0),(2,Z1),(7,N m1),(8,N m2)] σ2 e ff' σ'):LL Ru 0 [(0,r0),(2,Z1),(7,N m1),(8,N m2)] (pc s ls k1 l1 wr bf1::T) e ff' σ':=
 BM [0,2,7,8] [st 1 (oW h1),sq 7 (AX .i64 c1),sg 2 (oW h2),sp 9 (AX .i64 c1),sg 7 (oW h3),sq 0 (Ip c2)] hl
theorem R54:Rn 159 a159:=fun _ _ _=>rfl
theorem r54(h1:Hp σ m1 m2)(L1:LL a159 0 [(0,r0),(1,func g [] [.ref q 0]),(4,Z1),(5,N m1),(6,N m2)] σ (.exit 0) [(0,r0),(4,Z1),(5,N m1),(6,N m2)] σ1)(h2:Hm 1 [] m1 m2 .nils σ1 U1):E 159 [r0,.func g [] [.ref q 0]] σ U1.pv σ1:=
 Bt R54 [st 2 (oW h1),sl 5 [0,1,4,5,6] L1,st 3 (oW h2),st 0 (zl σ1 U1)] (rz 4 U1)
theorem av(h1:E 154 [r0,I 5] (pc s ls k1 l1 wr bf1::T) (.bool true) (pc s ls k1 l1 wr bf1::T)):LL a159 0 [(0,r0),(1,func g [] [.ref q 0]),(4,Z1),(5,N m1),(6,N m2)] (pc s ls k1 l1 wr bf1::T) (.exit 0) [(0,r0),(4,Z1),(5,N m1),(6,N m2)] (pc s ls k1 l1 wr bf1::T):=
 BA [0,4,5,6] [st 1 (oW h1)]
theorem Xo(h1:E 154 [r0,I 5] (pc s ls k1 l1 wr bf1::T) (.bool false) (pc s ls k1 l1 wr bf1::T))(c1:(k1:Int)=(m1:Int))(h2:E 235 [r0] (pc s ls k1 l1 wr bf1::T) (.str s1) σ1)(hl:LL a159 0 [(0,r0),(1,func g [] [.ref q 0]),(4,Z1),(5,N m1),(6,N m2)] σ1 e ff' σ'):LL a159 0 [(0,r0),(1,func g [] [.ref q 0]),(4,Z1),(5,N m1),(6,N m2)] (pc s ls k1 l1 wr bf1::T) e ff' σ':=
 BM [0,1,4,5,6] [st 1 (oW h1),sq 7 (BJ .i64 c1),st 8 (oW h2)] hl
theorem au(h1:E 154 [r0,I 5] (pc s ls k1 l1 wr bf1::T) (.bool false) (pc s ls k1 l1 wr bf1::T))(c1:(k1:Int)≠(m1:Int))(pg:pur g=false)(h2:E g [.ref q 0] (pc s ls k1 l1 wr bf1::T) (.bool true) (pc s ls k1 l1 wr bf1::T)):LL a159 0 [(0,r0),(1,func g [] [.ref q 0]),(4,Z1),(5,N m1),(6,N m2)] (pc s ls k1 l1 wr bf1::T) (.exit 0) [(0,r0),(4,Z1),(5,N m1),(6,N m2)] (pc s ls k1 l1 wr bf1::T):=
 BA [0,4,5,6] [st 1 (oW h1),sq 7 (AX .i64 c1),sg 2 (NW h2 pg:Bh pur run (.w .calld) [.func g [] [.ref q 0]] (pc s ls k1 l1 wr bf1::T) [some (.bool true)] (pc s ls k1 l1 wr bf1::T))]
theorem Xn(h1:E 154 [r0,I 5] (pc s ls k1 l1 wr bf1::T) (.bool false) (pc s ls k1 l1 wr bf1::T))(c1:(k1:Int)≠(m1:Int))(pg:pur g=false)(h2:E g [.ref q 0] (pc s ls k1 l1 wr bf1::T) (.bool false) (pc s ls k1 l1 wr bf1::T))(h3:E 235 [r0] (pc s ls k1 l1 wr bf1::T) (.str s1) σ1)(hl:LL a159 0 [(0,r0),(1,func g [] [.ref q 0]),(4,Z1),(5,N m1),(6,N m2)] σ1 e ff' σ'):LL a159 0 [(0,r0),(1,func g [] [.ref q 0]),(4,Z1),(5,N m1),(6,N m2)] (pc s ls k1 l1 wr bf1::T) e ff' σ':=
 BM [0,1,4,5,6] [st 1 (oW h1),sq 7 (AX .i64 c1),sg 2 (NW h2 pg:Bh pur run (.w .calld) [.func g [] [.ref q 0]] (pc s ls k1 l1 wr bf1::T) [some (.bool false)] (pc s ls k1 l1 wr bf1::T)),st 5 (oW h3)] hl
theorem R55:Rn 160 a160:=fun _ _ _=>rfl
theorem r55(x1:Fq (.ld 1 false) [.ref q 0] σ=some [some r0])(h1:Hw [.str [112,114,111,99],.str [114,101,99,111,114,100]] σ b1):E 160 [.ref q 0] σ (.bool b1) σ:=
 rule R55 [st 1 (QS σ x1),st 1 (Ct h1:Bh pur run (.w (.call 155)) [r0,.slice true 1 [.str [112,114,111,99],.str [114,101,99,111,114,100]]] σ [some (.bool b1)] σ)]
theorem R23:Rn 116 a116:=fun _ _ _=>rfl
theorem r23(x1:Fq (.ld 1 false) [.ref (T.length+1) 0] (pc s ls k l wr bf::(T++[[r0]]))=some [some r0])(L1:LL a116 0 [(1,ref (T.length+1) 0),(2,Z1),(3,agg [I 2,.str [],I 0,N s.length,.nils])] (pc s ls k l wr bf::(T++[[r0]])) (.exit 0) [(1,ref (T.length+1) 0),(2,Z1),(3,agg [I 2,.str [],I 0,N s.length,Bw 5 es1])] σ1):E 116 [r0] (pc s ls k l wr bf::T) (.agg [I 2,.str [],I 0,N s.length,BG 5 es1]) σ1:=
 Bt R23 [st 2 (QS (pc s ls k l wr bf::(T++[[r0]])) x1),sl 7 [1,2,3] L1,st 0 (FV (xU):Bh pur run (.p (.ldl 0 5 true)) [.agg [I 2,.str [],I 0,N s.length,Bw 5 es1]] σ1 [some (.agg [I 2,.str [],I 0,N s.length,BG 5 es1])] σ1),st 0 (FV (eO (by simp) (by simp) (by simp) (by simp[upd])):Bh pur run (.p (.stl 0 5)) [Z1,.agg [I 2,.str [],I 0,N s.length,BG 5 es1]] σ1 [some (.agg [I 2,.str [],I 0,N s.length,BG 5 es1])] σ1)] (by simp[Gs,DL]:(Gm [(2,agg [I 2,.str [],I 0,N s.length,BG 5 es1])] [(2,some 5)]).bind DL=some (.agg [I 2,.str [],I 0,N s.length,BG 5 es1]))
theorem aX(x1:Fq (.ld 1 false) [.ref (T.length+1) 0] σ1=some [some r0])(h1:Hi 5 σ1 true):LL a116 0 [(1,ref (T.length+1) 0),(2,Z1),(3,agg [I 2,.str [],I 0,N s.length,Bw 5 es1])] σ1 (.exit 0) [(1,ref (T.length+1) 0),(2,Z1),(3,agg [I 2,.str [],I 0,N s.length,Bw 5 es1])] σ1:=
 BA [1,2,3] [st 0 (QS σ1 x1),st 0 (oW h1)]
theorem XX(x1:Fq (.ld 1 false) [.ref (T.length+1) 0] σ1=some [some r0])(h1:Hi 5 σ1 false)(h2:Hw [.str [114,101,99,111,114,100]] σ1 true)(h3:Ht 156 σ1 U1 σ2)(l1:es1.length+1≤Bn)(hl:LL a116 0 [(1,ref (T.length+1) 0),(2,Z1),(3,agg [I 2,.str [],I 0,N s.length,Bw 5 (es1++[U1.pv])])] σ2 e ff' σ'):LL a116 0 [(1,ref (T.length+1) 0),(2,Z1),(3,agg [I 2,.str [],I 0,N s.length,Bw 5 es1])] σ1 e ff' σ':=
 BM [1,2,3] [st 0 (QS σ1 x1),st 0 (oW h1),st 2 (QS σ1 x1),st 1 (Ct h2:Bh pur run (.w (.call 155)) [r0,.slice true 1 [.str [114,101,99,111,114,100]]] σ1 [some (.bool true)] σ1),st 3 (FV (Tu):Bh pur run (.p (.ldfo 3)) [.lref 3 4,.agg [I 2,.str [],I 0,N s.length,Bw 5 es1]] σ1 [some (Bw 5 es1),some (.agg [I 2,.str [],I 0,N s.length,BG 5 es1])] σ1),st 0 (QS σ1 x1),st 0 (oW h3),st 0 (bz1 σ2 U1),st 0 (FV (Gr l1):Bh pur run (.p (.app 5)) [Bw 5 es1,.slice true 5 [U1.pv]] σ2 [some (Bw 5 (es1++[U1.pv])),some (BG 5 es1)] σ2),st 1 (FV (Sb):Bh pur run (.p (.stfo 3)) [.lref 3 4,.agg [I 2,.str [],I 0,N s.length,BG 5 es1],Bw 5 (es1++[U1.pv])] σ2 [some (.agg [I 2,.str [],I 0,N s.length,Bw 5 (es1++[U1.pv])]),some (BG 5 (es1++[U1.pv]))] σ2)] hl
theorem XW(x1:Fq (.ld 1 false) [.ref (T.length+1) 0] σ1=some [some r0])(h1:Hi 5 σ1 false)(h2:Hw [.str [114,101,99,111,114,100]] σ1 false)(h3:Hw [.str [112,114,111,99]] σ1 true)(h4:Ht 157 σ1 U1 σ2)(l1:es1.length+1≤Bn)(hl:LL a116 0 [(1,ref (T.length+1) 0),(2,Z1),(3,agg [I 2,.str [],I 0,N s.length,Bw 5 (es1++[U1.pv])])] σ2 e ff' σ'):LL a116 0 [(1,ref (T.length+1) 0),(2,Z1),(3,agg [I 2,.str [],I 0,N s.length,Bw 5 es1])] σ1 e ff' σ':=
 BM [1,2,3] [st 0 (QS σ1 x1),st 0 (oW h1),st 2 (QS σ1 x1),st 1 (Ct h2:Bh pur run (.w (.call 155)) [r0,.slice true 1 [.str [114,101,99,111,114,100]]] σ1 [some (.bool false)] σ1),st 2 (QS σ1 x1),st 1 (Ct h3:Bh pur run (.w (.call 155)) [r0,.slice true 1 [.str [112,114,111,99]]] σ1 [some (.bool true)] σ1),st 3 (FV (Tu):Bh pur run (.p (.ldfo 3)) [.lref 3 4,.agg [I 2,.str [],I 0,N s.length,Bw 5 es1]] σ1 [some (Bw 5 es1),some (.agg [I 2,.str [],I 0,N s.length,BG 5 es1])] σ1),st 0 (QS σ1 x1),st 0 (oW h4),st 0 (bz1 σ2 U1),st 0 (FV (Gr l1):Bh pur run (.p (.app 5)) [Bw 5 es1,.slice true 5 [U1.pv]] σ2 [some (Bw 5 (es1++[U1.pv])),some (BG 5 es1)] σ2),st 1 (FV (Sb):Bh pur run (.p (.stfo 3)) [.lref 3 4,.agg [I 2,.str [],I 0,N s.length,BG 5 es1],Bw 5 (es1++[U1.pv])] σ2 [some (.agg [I 2,.str [],I 0,N s.length,Bw 5 (es1++[U1.pv])]),some (BG 5 (es1++[U1.pv]))] σ2)] hl
theorem XV(x1:Fq (.ld 1 false) [.ref (T.length+1) 0] σ1=some [some r0])(h1:Hi 5 σ1 false)(h2:Hw [.str [114,101,99,111,114,100]] σ1 false)(h3:Hw [.str [112,114,111,99]] σ1 false)(h4:E 158 [r0,I 7,.str []] σ1 (.tuple []) σ2)(x2:Fq (.ld 1 false) [.ref (T.length+1) 0] σ2=some [some r0])(h5:E 159 [r0,.func 160 [] [.ref (T.length+1) 0]] σ2 U1.pv σ3)(l1:es1.length+1≤Bn)(hl:LL a116 0 [(1,ref (T.length+1) 0),(2,Z1),(3,agg [I 2,.str [],I 0,N s.length,Bw 5 (es1++[U1.pv])])] σ3 e ff' σ'):LL a116 0 [(1,ref (T.length+1) 0),(2,Z1),(3,agg [I 2,.str [],I 0,N s.length,Bw 5 es1])] σ1 e ff' σ':=
 BM [1,2,3] [st 0 (QS σ1 x1),st 0 (oW h1),st 2 (QS σ1 x1),st 1 (Ct h2:Bh pur run (.w (.call 155)) [r0,.slice true 1 [.str [114,101,99,111,114,100]]] σ1 [some (.bool false)] σ1),st 2 (QS σ1 x1),st 1 (Ct h3:Bh pur run (.w (.call 155)) [r0,.slice true 1 [.str [112,114,111,99]]] σ1 [some (.bool false)] σ1),st 2 (QS σ1 x1),st 0 (oW h4),st 1 (FV (Tu):Bh pur run (.p (.ldfo 3)) [.lref 3 4,.agg [I 2,.str [],I 0,N s.length,Bw 5 es1]] σ2 [some (Bw 5 es1),some (.agg [I 2,.str [],I 0,N s.length,BG 5 es1])] σ2),st 0 (QS σ2 x2),st 1 (oW h5),st 0 (bz1 σ3 U1),st 0 (FV (Gr l1):Bh pur run (.p (.app 5)) [Bw 5 es1,.slice true 5 [U1.pv]] σ3 [some (Bw 5 (es1++[U1.pv])),some (BG 5 es1)] σ3),st 1 (FV (Sb):Bh pur run (.p (.stfo 3)) [.lref 3 4,.agg [I 2,.str [],I 0,N s.length,BG 5 es1],Bw 5 (es1++[U1.pv])] σ3 [some (.agg [I 2,.str [],I 0,N s.length,Bw 5 (es1++[U1.pv])]),some (BG 5 (es1++[U1.pv]))] σ3)] hl
theorem R53:Rn 158 BwF:=fun _ _ _=>rfl
theorem AzV(h1:E 152 [r0,I 0] (pc s ls k l .nils bf::T) t1.pv (pc s ls k l .nils bf::T))(c1:(t1.a:Int)≠bf):E 158 [r0,N c,.str tx] (pc s ls k l .nils bf::T) (.tuple []) (pc s ls k l (.arr (T.length+1) 0 0 1 5) (t1.a:Int)::(T++[[.arrv 0 5 [.agg [N c,N t1.a,N t1.e,.str tx,.nils]]]])):=
 rule R53 [st 1 (oW h1),sp 8 (DU .i64 c1),st 14 (UA rfl:Bh pur run (.w (.Gf 5)) [.nils,.slice true 5 [.agg [N c,N t1.a,N t1.e,.str tx,.nils]]] (pc s ls k l .nils bf::T) [some (.arr (T.length+1) 0 0 1 5)] (pc s ls k l .nils bf::(T++[[.arrv 0 5 [.agg [N c,N t1.a,N t1.e,.str tx,.nils]]]]))),st 2 (stW (by first | rfl | exact hw):Bh pur run (.w (.st 1)) [.ref 0 4,.arr (T.length+1) 0 0 1 5] (pc s ls k l .nils bf::(T++[[.arrv 0 5 [.agg [N c,N t1.a,N t1.e,.str tx,.nils]]]])) [] (pc s ls k l (.arr (T.length+1) 0 0 1 5) bf::(T++[[.arrv 0 5 [.agg [N c,N t1.a,N t1.e,.str tx,.nils]]]]))),st 5 (stB (by first | rfl | exact hw):Bh pur run (.w (.st 1)) [.ref 0 5,N t1.a] (pc s ls k l (.arr (T.length+1) 0 0 1 5) bf::(T++[[.arrv 0 5 [.agg [N c,N t1.a,N t1.e,.str tx,.nils]]]])) [] (pc s ls k l (.arr (T.length+1) 0 0 1 5) (t1.a:Int)::(T++[[.arrv 0 5 [.agg [N c,N t1.a,N t1.e,.str tx,.nils]]]])))]
theorem AzX{g:Nat}(hn:Ds.length=n)(hm:n+1≤Bn){t1:Tk}(h1:E 152 [r0,I 0] (pc s ls k l (.arr (B.length+1) g 0 n 5) bf::(B++[[.arrv g 5 Ds]])) t1.pv (pc s ls k l (.arr (B.length+1) g 0 n 5) bf::(B++[[.arrv g 5 Ds]])))(c1:(t1.a:Int)≠bf):E 158 [r0,N c,.str tx] (pc s ls k l (.arr (B.length+1) g 0 n 5) bf::(B++[[.arrv g 5 Ds]])) (.tuple []) (pc s ls k l (.arr (B.length+1) (g+1) 0 (n+1) 5) (t1.a:Int)::(B++[[.arrv (g+1) 5 (Ds++[.agg [N c,N t1.a,N t1.e,.str tx,.nils]])]])):=
 rule R53 [st 1 (oW h1),sp 8 (DU .i64 c1),st 14 (UB rfl hn hm:Bh pur run (.w (.Gf 5)) [.arr (B.length+1) g 0 n 5,.slice true 5 [.agg [N c,N t1.a,N t1.e,.str tx,.nils]]] (pc s ls k l (.arr (B.length+1) g 0 n 5) bf::(B++[[.arrv g 5 Ds]])) [some (.arr (B.length+1) (g+1) 0 (n+1) 5)] (pc s ls k l (.arr (B.length+1) g 0 n 5) bf::(B++[[.arrv (g+1) 5 (Ds++[.agg [N c,N t1.a,N t1.e,.str tx,.nils]])]]))),st 2 (stW (by first | rfl | exact hw):Bh pur run (.w (.st 1)) [.ref 0 4,.arr (B.length+1) (g+1) 0 (n+1) 5] (pc s ls k l (.arr (B.length+1) g 0 n 5) bf::(B++[[.arrv (g+1) 5 (Ds++[.agg [N c,N t1.a,N t1.e,.str tx,.nils]])]])) [] (pc s ls k l (.arr (B.length+1) (g+1) 0 (n+1) 5) bf::(B++[[.arrv (g+1) 5 (Ds++[.agg [N c,N t1.a,N t1.e,.str tx,.nils]])]]))),st 5 (stB (by first | rfl | exact hw):Bh pur run (.w (.st 1)) [.ref 0 5,N t1.a] (pc s ls k l (.arr (B.length+1) (g+1) 0 (n+1) 5) bf::(B++[[.arrv (g+1) 5 (Ds++[.agg [N c,N t1.a,N t1.e,.str tx,.nils]])]])) [] (pc s ls k l (.arr (B.length+1) (g+1) 0 (n+1) 5) (t1.a:Int)::(B++[[.arrv (g+1) 5 (Ds++[.agg [N c,N t1.a,N t1.e,.str tx,.nils]])]])))]
theorem AzW{g:Nat}(hn:Ds.length=n)(hm:n+1≤Bn){t1:Tk}(h1:E 152 [r0,I 0] (pc s ls k l (.arr (B.length+1) g 0 n 5) bf::(B++[[.arrv g 5 Ds]])) t1.pv (pc s ls k l (.arr (B.length+1) g 0 n 5) bf::(B++[[.arrv g 5 Ds]])))(c1:(t1.a:Int)=bf):E 158 [r0,N c,.str tx] (pc s ls k l (.arr (B.length+1) g 0 n 5) bf::(B++[[.arrv g 5 Ds]])) (.tuple []) (pc s ls k l (.arr (B.length+1) g 0 n 5) (t1.a:Int)::(B++[[.arrv g 5 Ds]])):=
 rule R53 [st 1 (oW h1),sp 8 (DF .i64 c1),st 6 (stB (by first | rfl | exact hw):Bh pur run (.w (.st 1)) [.ref 0 5,N t1.a] (pc s ls k l (.arr (B.length+1) g 0 n 5) bf::(B++[[.arrv g 5 Ds]])) [] (pc s ls k l (.arr (B.length+1) g 0 n 5) (t1.a:Int)::(B++[[.arrv g 5 Ds]])))]
end Go.Abs.Z

namespace Go.Abs.Z
open Go.Proofs Go.RowKit
def wd(s:List UInt8)(t:Tk):List UInt8:=(s.drop t.a).take (t.e - t.a)
def wAt(s:List UInt8)(ls:List Tk)(k:Nat):Wd:=match ls[k]? with | some t=>(t.k,wd s t) | none=>(5,[])
def tA(ls:List Tk)(k:Nat):Nat:=match ls[k]? with | some t=>t.a | none=>0
def tE(ls:List Tk)(k:Nat):Nat:=match ls[k]? with | some t=>t.e | none=>0
def en(ls:List Tk):Nat→Nat
 |0=>0
 |k+1=>tE ls k
def spW:List (List UInt8):=[K6,Iz,Og,wIf,VC,Lt,RU,wTo,GH,Jl,Az5,wOr,Oh,Iy,GQ,NF,JU,Oi,
 [61,61],[33,61],[60],[60,61],[62],[62,61],[43],[45],[42],[47],[37],[40],[41],[123],[125],[91],[93],[44],[59],[58],[46],[61]]
def Y9:List (List UInt8):=[Og,wIf,Lt,RU,GH,Jl]
structure CG(s:List UInt8)(ls:List Tk)(m:Nat):Prop where
 len:ls.length=m+1
 big:m<1000000
 small:s.length<1000000
 fin:∃t,ls[m]?=some t∧t.k=5∧t.e=t.a
 ord:∀(k:Nat) (t:Tk),ls[k]?=some t→t.a≤t.e∧t.e≤s.length
 inc:∀(i j:Nat) (t u:Tk),ls[i]?=some t→ls[j]?=some u→i<j→t.a<u.a∧t.e≤u.a
 kd:∀(k:Nat) (t:Tk),ls[k]?=some t→k<m→t.k<4
 sp:∀(k:Nat) (t:Tk),ls[k]?=some t→spW.contains (wd s t)=true→t.k=1∨t.k=3
 par:∀(k:Nat) (t:Tk),ls[k]?=some t→wd s t=[40]→t.k=3
 kw:∀(k:Nat) (t:Tk),ls[k]?=some t→Y9.contains (wd s t)=true→t.k=1
def wrP(q:Nat)(D:List AD):PV:=match D with | []=>.nils | d::D=>.arr q D.length 0 (D.length+1) 5
def bfP(ls:List Tk)(D:List AD):Int:=match D.getLast? with | none=>-1 | some d=>(tA ls d.i:Nat)
def dgp(ls:List Tk)(d:AD):PV:=(Dg.mk d.c (tA ls d.i) (tE ls d.i) d.t).pv
def arS(ls:List Tk)(D:List AD):Sto:=match D with | []=>[] | d::D=>[[.arrv D.length 5 ((d::D).map (dgp ls))]]
def PS4(s:List UInt8)(ls:List Tk)(B:Sto)(k:Nat)(D:List AD):Sto:=pc s ls k (en ls k) (wrP (B.length+1) D) (bfP ls D)::(B++arS ls D)
section
variable{s:List UInt8}{ls:List Tk}{m:Nat}
theorem CG.at(H:CG s ls m){k:Nat}(h:k≤m):∃t,ls[k]?=some t:=⟨_,Ah (by rw[H.len];omega)⟩
theorem Jw{k:Nat}{t:Tk}(h:ls[k]?=some t):wAt s ls k=(t.k,wd s t):=by simp[wAt,h]
theorem JY{k:Nat}{t:Tk}(h:ls[k]?=some t):tA ls k=t.a:=by simp[tA,h]
theorem QM{k:Nat}{t:Tk}(h:ls[k]?=some t):tE ls k=t.e:=by simp[tE,h]
theorem CG.end'(H:CG s ls m):wAt s ls m=(5,[]):=by
 obtain⟨t,h1,h2,h3⟩:=H.fin;rw[Jw h1,h2];simp[wd,h3]
theorem CG.lt(H:CG s ls m){k:Nat}(h:k≤m)(h5:(wAt s ls k).1≠5):k<m:=by
 rcases Bc k m with h' | h'
 ·exact h'
 ·have:k=m:=by omega
  subst this;rw[H.end'] at h5;exact absurd rfl h5
theorem iC(q:Nat)(D:List AD):(wrP q D).isSelf=false:=by cases D<;>rfl
theorem Bk0(ws:List (List UInt8))(x:List UInt8)(hl:ws.length<1000):∀(n j:Nat),j+n=ws.length→(∀i,i<j→ws[i]?≠some x)→
  (∃i,LL Zj 0 [(0,some (.slice false 1 (ws.map PV.str))),(1,some (.str x)),(7,some (N ws.length)),(8,some (N j))] [] .ret [(4,some (N i))] []∧ws.contains x=true) ∨
  (LL Zj 0 [(0,some (.slice false 1 (ws.map PV.str))),(1,some (.str x)),(7,some (N ws.length)),(8,some (N j))] [] (.exit 0) [(0,some (.slice false 1 (ws.map PV.str)))] []∧ws.contains x=false):=by
 intro n
 induction n with
 |zero=>
  intro j hj h;refine .inr ⟨Yf (by omega),?_⟩
  rw[←Ff,CO,BL]
  rintro⟨i,hi⟩
  have:=(Ad.1 hi).1;exact h i (by omega) hi
 |succ n ih=>
  intro j hj h;have hlt:j<ws.length:=by omega
  have hg:=Ah hlt;by_cases hx:x=ws[j]
  ·refine .inl ⟨j,Ye (by omega) hg hx,?_⟩
   rw[CO,hx];exact Ci hlt
  ·rcases ih (j+1) (by omega) (fun i hi=>by
    rcases Bc i j with h' | h'
    ·exact h i h'
    ·have:i=j:=by omega
     subst this;rw[hg];intro e;exact hx (Option.some.inj e).symm) with⟨i,h1,h2⟩ | ⟨h1,h2⟩
   ·exact .inl ⟨i,NP (by omega) hg hx (by omega) h1,h2⟩
   ·exact .inr ⟨NP (by omega) hg hx (by omega) h1,h2⟩
theorem AWI(ws:List (List UInt8))(x:List UInt8)(hl:ws.length<1000):E 224 [.slice false 1 (ws.map PV.str),.str x] [] (.bool (ws.contains x)) []:=by
 rcases Bk0 ws x hl ws.length 0 (by omega) (fun i h=>by omega) with⟨i,h1,h2⟩ | ⟨h1,h2⟩
 ·have:=AW9 (AkD h1);rw[h2]
  rwa [decide_eq_true (by omega)] at this
 ·have:=AW9 (AkE h1);rw[h2];exact this
variable{B:Sto}{k:Nat}{D:List AD}
theorem p47(H:CG s ls m)(h:k≤m){j:Nat}(hj:j≤1){t:Tk}(ht:ls[min (k+j) m]?=some t):E 152 [.ref 0 0,N j] (PS4 s ls B k D) t.pv (PS4 s ls B k D):=by
 have:=H.big;refine r47 (by omega) (by omega) (by rw[H.len];omega) (by rw[H.len];omega) ?_
 rw[H.len];exact ht
theorem p9(H:CG s ls m)(h:k≤m){t:Tk}(ht:ls[k]?=some t):E 152 [.ref 0 0,I 0] (PS4 s ls B k D) t.pv (PS4 s ls B k D):=
 p47 H h (j:=0) (by omega) (by rw[show min (k+0) m=k by omega];exact ht)
theorem zf(H:CG s ls m){i:Nat}{t:Tk}(ht:ls[i]?=some t){l:Nat}{wr:PV}{bf:Int}{T:Sto}:E 225 [.ref 0 0,t.pv] (pc s ls k l wr bf::T) (.str (wd s t)) (pc s ls k l wr bf::T):=by
 obtain⟨h1,h2⟩:=H.ord i t ht;exact BjS (NU s t.a t.e h1 h2)
theorem AWH(H:CG s ls m){i:Nat}{t:Tk}(ht:ls[i]?=some t):E 225 [.ref 0 0,t.pv] (PS4 s ls B k D) (.str (wd s t)) (PS4 s ls B k D):=zf H ht
theorem p50(H:CG s ls m)(h:k≤m)(ws:List (List UInt8))(hl:ws.length<1000)(hw:ws.all spW.contains=true):E 155 [.ref 0 0,.slice false 1 (ws.map PV.str)] (PS4 s ls B k D) (.bool (ws.contains (wAt s ls k).2)) (PS4 s ls B k D):=by
 obtain⟨t,ht⟩:=H.at h;have h1:=p9 (B:=B) (D:=D) H h ht;have h2:=AWH (k:=k) (B:=B) (D:=D) H ht;rw[Jw ht];by_cases c1:t.k=1
 ·exact AV2 h1 (by omega) h2 (AWI ws _ hl)
 ·by_cases c3:t.k=3
  ·exact AV1 h1 (by omega) (by omega) h2 (AWI ws _ hl)
  ·have hf:ws.contains (wd s t)=false:=by
    rw[←Ff,CO];intro hm;have:=H.sp k t ht (Av.1 hw _ hm);omega
   show E 155 _ _ (.bool (ws.contains (wd s t))) _;rw[hf];exact AV0 h1 (by omega) (by omega)
theorem p49(H:CG s ls m)(h:k≤m)(j:Nat):E 154 [.ref 0 0,N j] (PS4 s ls B k D) (.bool (decide ((wAt s ls k).1=j))) (PS4 s ls B k D):=by
 obtain⟨t,ht⟩:=H.at h;have:=r49 (j:=(j:Int)) (p9 (B:=B) (D:=D) H h ht);rw[Jw ht]
 have e:(((t.k:Nat):Int)==(j:Int))=decide (t.k=j):=by
  by_cases hk:t.k=j
  ·simp[hk]
  ·rw[decide_eq_false hk,beq_eq_false_iff_ne];omega
 rwa [e] at this
theorem p75:E 226 [.ref 0 0] (PS4 s ls B k D) (.tuple [N k,N (en ls k)]) (PS4 s ls B k D):=r75
theorem p76(H:CG s ls m)(h:k<m):E 235 [.ref 0 0] (PS4 s ls B k D) (.str (wAt s ls k).2) (PS4 s ls B (k+1) D):=by
 obtain⟨t,ht⟩:=H.at (Dz h);have:=H.big;have:=r76 (iC _ _) (p9 (B:=B) (D:=D) H (Dz h) ht) (by omega) (zf H ht)
 rw[Jw ht];have e:en ls (k+1)=t.e:=QM ht;unfold PS4;rw[e];exact this
theorem je(D:List AD)(d:AD):arS ls (D++[d])=[[.arrv D.length 5 (D.map (dgp ls)++[dgp ls d])]]∧∀q,wrP q (D++[d])=.arr q D.length 0 (D.length+1) 5:=by
 cases D with
 |nil=>exact⟨rfl,fun _=>rfl⟩
 |cons e D=>
  refine⟨?_,fun q=>?_⟩
  ·show[[PV.arrv (D++[d]).length 5 ((e::(D++[d])).map (dgp ls))]]=_;simp
  ·show PV.arr q (D++[d]).length 0 ((D++[d]).length+1) 5=_;simp
theorem p53(H:CG s ls m)(h:k≤m)(hD:∀d∈D,d.i≤m)(hn:D.length<1000000000)(c:Nat)(x:List UInt8):E 158 [.ref 0 0,N c,.str x] (PS4 s ls B k D) (.tuple []) (PS4 s ls B k (rp D c k x)):=by
 obtain⟨t,ht⟩:=H.at h;have h47:=p9 (B:=B) (D:=D) H h ht;have hA:tA ls k=t.a:=JY ht
 have hlast:D.getLast?.map AD.i=some k↔((t.a:Nat):Int)=bfP ls D:=by
  unfold bfP;cases hl:D.getLast? with
  |none=>simp
  |some d=>
   have hdi:=hD d (List.mem_of_getLast? hl);obtain⟨u,hu⟩:=H.at hdi;simp only[AO,Option.some.injEq];rw[JY hu];refine⟨fun e=>?_,fun e=>?_⟩
   ·subst e;rw[ht] at hu;cases hu;rfl
   ·rcases Nat.lt_trichotomy d.i k with hlt | heq | hgt
    ·have:=(H.inc _ _ _ _ hu ht hlt).1;omega
    ·exact heq
    ·have:=(H.inc _ _ _ _ ht hu hgt).1;omega
 unfold rp;by_cases hc:D.getLast?.map AD.i=some k
 ·rw[if_pos hc];have hb:=hlast.1 hc;cases D with
  |nil=>simp at hc
  |cons d D=>
   have:=AzW (s:=s) (ls:=ls) (k:=k) (l:=en ls k) (B:=B) (g:=D.length) (n:=D.length+1) (Ds:=(d::D).map (dgp ls)) (bf:=bfP ls (d::D)) (c:=c) (tx:=x) (by simp) (by simp[Bn] at hn ⊢;omega) h47 hb
   unfold PS4;rw[hb] at this;exact this
 ·rw[if_neg hc];have hb:((t.a:Nat):Int)≠bfP ls D:=fun e=>hc (hlast.2 e)
  obtain⟨e1,e2⟩:=je (ls:=ls) D ⟨c,k,x⟩;have e3:bfP ls (D++[⟨c,k,x⟩])=((t.a:Nat):Int):=by simp[bfP,hA]
  have e4:dgp ls ⟨c,k,x⟩=(.agg [N c,N t.a,N t.e,.str x,.nils]):=by
   show(Dg.mk c (tA ls k) (tE ls k) x).pv=_;rw[hA,QM ht];rfl
  unfold PS4;rw[e1,e2,e3,e4];cases D with
  |nil=>
   have:=AzV (s:=s) (ls:=ls) (k:=k) (l:=en ls k) (T:=B) (bf:=bfP ls []) (c:=c) (tx:=x) (t1:=t) (by simpa [PS4,arS,wrP] using h47) hb
   simpa [PS4,arS,wrP] using this
  |cons d D=>
   exact AzX (s:=s) (ls:=ls) (k:=k) (l:=en ls k) (B:=B) (g:=D.length) (n:=D.length+1) (Ds:=(d::D).map (dgp ls)) (bf:=bfP ls (d::D)) (c:=c) (tx:=x) (by simp) (by simp[Bn] at hn ⊢;omega) h47 hb
end
end Go.Abs.Z

namespace Go.Abs.Z
open Go.Proofs Go.RowKit
def by8(b:UInt8):PV:=.int .u8 ((b.toNat:Nat):Int)
def GU:List UInt8:=[60,62,61,43,45,42,47,37,40,41,123,125,91,93,44,59,58,46]
def kwL:List (List UInt8):=[K6,Iz,Og,wIf,VC,Lt,RU,wTo,GH,Jl,Az5,wOr,Oh,Iy,GQ,NF,JU,Oi]
def jG:PV:=.mapv (kwL.map Ky.s) (kwL.map fun _=>.bool true)
theorem BQ7:Rn 236 a236:=fun _ _ _=>rfl
theorem e153:E 236 [] [] jG []:=rule BQ7 []
theorem xS(o:Bool)(s:Nat)(x:List UInt8):Be (.len false) [.slice o s (x.map by8)]=some [some (.int .i64 (x.length:Nat))]:=by
 show some [some (PV.int .i64 ((x.map by8).length:Nat))]=_;rw[Aq]
theorem YS{o:Bool}{s:Nat}{x:List UInt8}{c:UInt8}(j:Nat)(h:x[j]?=some c):Be (.idx s) [.slice o s (x.map by8),.int .i64 (j:Nat)]=some [some (.vptr (.int .u8 ((c.toNat:Nat):Int)))]:=SX _ _ _ _ _ (by rw[Am,h];rfl)
def whB(c:UInt8):Bool:=c==9||c==10||c==13||c==32
def leB(c:UInt8):Bool:=decide (97≤c.toNat)&&decide (c.toNat≤122)
def diB(c:UInt8):Bool:=decide (48≤c.toNat)&&decide (c.toNat≤57)
def woB(c:UInt8):Bool:=leB c||diB c||c==95
def skN:Bool→List UInt8→Nat
 |_,[]=>0
 |true,c::l=>if c=10 then 1+skN false l else 1+skN true l
 |false,c::l=>if whB c then 1+skN false l else if c=35 then 1+skN true l else 0
def Dc(p:UInt8→Bool)(l:List UInt8):Nat:=(l.takeWhile p).length
def H6:List UInt8→Nat
 |[]=>0
 |a::l=>if l.head?=some 61∧(a=61∨a=33∨a=60∨a=62) then 2 else if GU.contains a then 1 else 0
def Kv(c:UInt8)(l:List UInt8):Bool:=whB c||c==35||leB c||diB c||H6 (c::l) != 0
def wrN:List UInt8→Nat
 |[]=>0
 |c::l=>if Kv c l then 0 else 1+wrN l
def IP(l:List UInt8):Nat×Nat:=
 if leB (l.headD 0) then(if kwL.contains (l.take (Dc woB l)) then 1 else 0,Dc woB l)
 else if diB (l.headD 0) then(2,Dc diB l)
 else if 0<H6 l then(3,H6 l) else(4,1+wrN l.tail)
def J2:Nat→List UInt8→Nat→List Tk
 |0,_,_=>[]
 |n+1,l,f=>
  let k:=skN false l
  let r:=l.drop k
  if r=[] then[⟨5,f,f+k,f+k⟩] else⟨(IP r).1,f,f+k,f+k+(IP r).2⟩::J2 n (r.drop (IP r).2) (f+k+(IP r).2)
def EQ(s:List UInt8):List Tk:=J2 (s.length+1) s 0
end Go.Abs.Z

namespace Go.Abs.Z
open PV
open Go.Proofs Go.RowKit
variable{c c2 c4 c3 c1:UInt8}{s s1 w:List UInt8}{i m1 m2:Nat}{g:FuncId}{e:Cu}{ff':FF}{σ':Sto}{z1:Int}{es1:List PV}
theorem yQ:Rn 161 BwE:=fun _ _ _=>rfl
theorem Ak9(c1:(c.toNat:Int)=9):E 161 [.int .u8 (c.toNat:Int)] [] (.bool true) []:=
 rule yQ [sp 2 (BJ .u8 c1)]
theorem Ak8(c1:(c.toNat:Int)≠9)(c2:(c.toNat:Int)=10):E 161 [.int .u8 (c.toNat:Int)] [] (.bool true) []:=
 rule yQ [sp 2 (AX .u8 c1),sq 2 (BJ .u8 c2)]
theorem Ak7(c1:(c.toNat:Int)≠9)(c2:(c.toNat:Int)≠10)(c3:(c.toNat:Int)=13):E 161 [.int .u8 (c.toNat:Int)] [] (.bool true) []:=
 rule yQ [sp 2 (AX .u8 c1),sq 2 (AX .u8 c2),sq 3 (BJ .u8 c3)]
theorem Ak6(c1:(c.toNat:Int)≠9)(c2:(c.toNat:Int)≠10)(c3:(c.toNat:Int)≠13):E 161 [.int .u8 (c.toNat:Int)] [] (.bool ((c.toNat:Int)==32)) []:=
 rule yQ [sp 2 (AX .u8 c1),sq 2 (AX .u8 c2),sq 3 (AX .u8 c3)]
theorem BxM:Rn 164 a164:=fun _ _ _=>rfl
theorem Ak5(c1:(c.toNat:Int)≥97):E 164 [.int .u8 (c.toNat:Int)] [] (.bool (decide ((c.toNat:Int)≤122))) []:=
 rule BxM [sp 2 (KZ .u8 c1)]
theorem Ak4(c1:¬(c.toNat:Int)≥97):E 164 [.int .u8 (c.toNat:Int)] [] (.bool false) []:=
 rule BxM [sp 2 (LQ .u8 c1)]
theorem BxR:Rn 166 BwB:=fun _ _ _=>rfl
theorem AkG(c1:(c.toNat:Int)≥48):E 166 [.int .u8 (c.toNat:Int)] [] (.bool (decide ((c.toNat:Int)≤57))) []:=
 rule BxR [sp 2 (KZ .u8 c1)]
theorem AkF(c1:¬(c.toNat:Int)≥48):E 166 [.int .u8 (c.toNat:Int)] [] (.bool false) []:=
 rule BxR [sp 2 (LQ .u8 c1)]
theorem BQA:Rn 163 BwD:=fun _ _ _=>rfl
theorem BjI:E 163 [.int .u8 (c.toNat:Int)] [] (.bool ((c.toNat:Int) != 10)) []:=
 rule BQA []
theorem AQS:Rn 165 BwC:=fun _ _ _=>rfl
theorem Ak3(h1:E 164 [.int .u8 (c.toNat:Int)] [] (.bool true) []):E 165 [.int .u8 (c.toNat:Int)] [] (.bool true) []:=
 rule AQS [st 2 (oC h1)]
theorem Ak2(h1:E 164 [.int .u8 (c.toNat:Int)] [] (.bool false) [])(h2:E 166 [.int .u8 (c.toNat:Int)] [] (.bool true) []):E 165 [.int .u8 (c.toNat:Int)] [] (.bool true) []:=
 rule AQS [st 2 (oC h1),sg 2 (oC h2)]
theorem Ak1(h1:E 164 [.int .u8 (c.toNat:Int)] [] (.bool false) [])(h2:E 166 [.int .u8 (c.toNat:Int)] [] (.bool false) []):E 165 [.int .u8 (c.toNat:Int)] [] (.bool ((c.toNat:Int)==95)) []:=
 rule AQS [st 2 (oC h1),sg 2 (oC h2)]
theorem BQE:Rn 162 a162:=fun _ _ _=>rfl
theorem BjN(L1:LL a162 0 [(0,str s),(1,N i),(2,func g [] [])] [] (.exit 0) [(1,N m1)] []):E 162 [.str s,N i,.func g [] []] [] (N m1) []:=
 rule BQE [sl 1 [0,1,2] L1]
theorem Yk(c1:¬(m1:Int) < (s.length:Int)):LL a162 0 [(0,str s),(1,N m1),(2,func g [] [])] [] (.exit 0) [(1,N m1)] []:=
 BA [1] [sp 3 (BN .i64 c1)]
theorem Vm(c1:(m1:Int) < (s.length:Int))(g1:(s:List UInt8)[m1]?=some c2)(pg:pur g=true)(h1:E g [.int .u8 (c2.toNat:Int)] [] (.bool true) [])(l1:m1<2000000000)(hl:LL a162 0 [(0,str s),(1,N (m1+1)),(2,func g [] [])] [] e ff' σ'):LL a162 0 [(0,str s),(1,N m1),(2,func g [] [])] [] e ff' σ':=
 BM [0,1,2] [sp 3 (AQ .i64 c1),sq 4 (Bg _ m1 _ g1),sg 0 (Jy h1 pg (by rfl) (by rfl) (by rfl) (by rfl) (by rfl):Bh pur run (.w .calld) [.func g [] [],.int .u8 (c2.toNat:Int)] [] [some (.bool true)] []),sp 3 (AB m1 1 l1)] hl
theorem Yj(c1:(m1:Int) < (s.length:Int))(g1:(s:List UInt8)[m1]?=some c2)(pg:pur g=true)(h1:E g [.int .u8 (c2.toNat:Int)] [] (.bool false) []):LL a162 0 [(0,str s),(1,N m1),(2,func g [] [])] [] (.exit 0) [(1,N m1)] []:=
 BA [1] [sp 3 (AQ .i64 c1),sq 4 (Bg _ m1 _ g1),sg 0 (Jy h1 pg (by rfl) (by rfl) (by rfl) (by rfl) (by rfl):Bh pur run (.w .calld) [.func g [] [],.int .u8 (c2.toNat:Int)] [] [some (.bool false)] [])]
theorem BxS:Rn 117 a117:=fun _ _ _=>rfl
theorem AkN(L1:LL a117 0 [(0,str s),(1,N i)] [] (.exit 0) [(1,N m1)] []):E 117 [.str s,N i] [] (N m1) []:=
 rule BxS [sl 1 [0,1] L1]
theorem AkM(L1:LL a117 0 [(0,str s),(1,N i)] [] .ret [(4,N m1)] []):E 117 [.str s,N i] [] (N m1) []:=
 rule BxS [sl 1 [0,1] L1]
theorem O8(c1:¬(m1:Int) < (s.length:Int)):LL a117 0 [(0,str s),(1,N m1)] [] (.exit 0) [(1,N m1)] []:=
 BA [1] [sp 3 (BN .i64 c1)]
theorem NR(c1:(m1:Int) < (s.length:Int))(g1:(s:List UInt8)[m1]?=some c2)(h1:E 161 [.int .u8 (c2.toNat:Int)] [] (.bool true) [])(l1:m1<2000000000)(hl:LL a117 0 [(0,str s),(1,N (m1+1))] [] e ff' σ'):LL a117 0 [(0,str s),(1,N m1)] [] e ff' σ':=
 BM [0,1] [sp 3 (AQ .i64 c1),sp 3 (Bg _ m1 _ g1),st 0 (oC h1),sp 3 (AB m1 1 l1)] hl
theorem NQ(c1:(m1:Int) < (s.length:Int))(g1:(s:List UInt8)[m1]?=some c2)(h1:E 161 [.int .u8 (c2.toNat:Int)] [] (.bool false) [])(c3:(c2.toNat:Int)=35)(h2:E 162 [.str s,N m1,.func 163 [] []] [] (N m2) [])(hl:LL a117 0 [(0,str s),(1,N m2)] [] e ff' σ'):LL a117 0 [(0,str s),(1,N m1)] [] e ff' σ':=
 BM [0,1] [sp 3 (AQ .i64 c1),sp 3 (Bg _ m1 _ g1),st 0 (oC h1),sp 4 (Bg _ m1 _ g1),sp 0 (BJ .u8 c3),st 4 (oC h2)] hl
theorem Yr(c1:(m1:Int) < (s.length:Int))(g1:(s:List UInt8)[m1]?=some c2)(h1:E 161 [.int .u8 (c2.toNat:Int)] [] (.bool false) [])(c3:(c2.toNat:Int)≠35):LL a117 0 [(0,str s),(1,N m1)] [] .ret [(4,N m1)] []:=
 BA [4] [sp 3 (AQ .i64 c1),sp 3 (Bg _ m1 _ g1),st 0 (oC h1),sp 4 (Bg _ m1 _ g1),sp 0 (AX .u8 c3)]
theorem Vv:Rn 168 a168:=fun _ _ _=>rfl
theorem Ak0(l1:i<2000000000)(c1:¬((i+1:Nat):Int) < (s.length:Int))(L1:LL a168 0 [(0,str s),(1,N i),(44,slice false 1 (GU.map by8)),(45,I 18),(46,I 0)] [] (.exit 0) [(0,str s),(1,N i),(44,slice false 1 (GU.map by8))] []):E 168 [.str s,N i] [] (I 0) []:=
 rule Vv [sp 2 (AB i 1 l1),sp 2 (BN .i64 c1),sl 36 [0,1,44,45,46] L1]
theorem AjZ(l1:i<2000000000)(c1:¬((i+1:Nat):Int) < (s.length:Int))(L1:LL a168 0 [(0,str s),(1,N i),(44,slice false 1 (GU.map by8)),(45,I 18),(46,I 0)] [] .ret [(4,I 1)] []):E 168 [.str s,N i] [] (I 1) []:=
 rule Vv [sp 2 (AB i 1 l1),sp 2 (BN .i64 c1),sl 36 [0,1,44,45,46] L1]
theorem AjY(l1:i<2000000000)(c1:((i+1:Nat):Int) < (s.length:Int))(g1:(s:List UInt8)[i+1]?=some c2)(c3:(c2.toNat:Int)=61)(g2:(s:List UInt8)[i]?=some c4)(c5:(c4.toNat:Int)=61):E 168 [.str s,N i] [] (I 2) []:=
 rule Vv [sp 2 (AB i 1 l1),sp 2 (AQ .i64 c1),sq 3 (AB i 1 l1),sq 0 (Bg _ (i+1) _ g1),sq 0 (BJ .u8 c3),sq 4 (Bg _ i _ g2),sq 0 (BJ .u8 c5)]
theorem AjX(l1:i<2000000000)(c1:((i+1:Nat):Int) < (s.length:Int))(g1:(s:List UInt8)[i+1]?=some c2)(c3:(c2.toNat:Int)≠61)(L1:LL a168 0 [(0,str s),(1,N i),(44,slice false 1 (GU.map by8)),(45,I 18),(46,I 0)] [] (.exit 0) [(0,str s),(1,N i),(44,slice false 1 (GU.map by8))] []):E 168 [.str s,N i] [] (I 0) []:=
 rule Vv [sp 2 (AB i 1 l1),sp 2 (AQ .i64 c1),sq 3 (AB i 1 l1),sq 0 (Bg _ (i+1) _ g1),sq 0 (AX .u8 c3),sl 30 [0,1,44,45,46] L1]
theorem AjW(l1:i<2000000000)(c1:((i+1:Nat):Int) < (s.length:Int))(g1:(s:List UInt8)[i+1]?=some c2)(c3:(c2.toNat:Int)≠61)(L1:LL a168 0 [(0,str s),(1,N i),(44,slice false 1 (GU.map by8)),(45,I 18),(46,I 0)] [] .ret [(4,I 1)] []):E 168 [.str s,N i] [] (I 1) []:=
 rule Vv [sp 2 (AB i 1 l1),sp 2 (AQ .i64 c1),sq 3 (AB i 1 l1),sq 0 (Bg _ (i+1) _ g1),sq 0 (AX .u8 c3),sl 30 [0,1,44,45,46] L1]
theorem AjV(l1:i<2000000000)(c1:((i+1:Nat):Int) < (s.length:Int))(g1:(s:List UInt8)[i+1]?=some c2)(c3:(c2.toNat:Int)=61)(g2:(s:List UInt8)[i]?=some c4)(c5:(c4.toNat:Int)≠61)(c6:(c4.toNat:Int)=33):E 168 [.str s,N i] [] (I 2) []:=
 rule Vv [sp 2 (AB i 1 l1),sp 2 (AQ .i64 c1),sq 3 (AB i 1 l1),sq 0 (Bg _ (i+1) _ g1),sq 0 (BJ .u8 c3),sq 4 (Bg _ i _ g2),sq 0 (AX .u8 c5),sq 3 (Bg _ i _ g2),sq 0 (BJ .u8 c6)]
theorem AjU(l1:i<2000000000)(c1:((i+1:Nat):Int) < (s.length:Int))(g1:(s:List UInt8)[i+1]?=some c2)(c3:(c2.toNat:Int)=61)(g2:(s:List UInt8)[i]?=some c4)(c5:(c4.toNat:Int)≠61)(c6:(c4.toNat:Int)≠33)(c7:(c4.toNat:Int)=60):E 168 [.str s,N i] [] (I 2) []:=
 rule Vv [sp 2 (AB i 1 l1),sp 2 (AQ .i64 c1),sq 3 (AB i 1 l1),sq 0 (Bg _ (i+1) _ g1),sq 0 (BJ .u8 c3),sq 4 (Bg _ i _ g2),sq 0 (AX .u8 c5),sq 3 (Bg _ i _ g2),sq 0 (AX .u8 c6),sq 4 (Bg _ i _ g2),sq 0 (BJ .u8 c7)]
theorem AjT(l1:i<2000000000)(c1:((i+1:Nat):Int) < (s.length:Int))(g1:(s:List UInt8)[i+1]?=some c2)(c3:(c2.toNat:Int)=61)(g2:(s:List UInt8)[i]?=some c4)(c5:(c4.toNat:Int)≠61)(c6:(c4.toNat:Int)≠33)(c7:(c4.toNat:Int)≠60)(c8:(c4.toNat:Int)=62):E 168 [.str s,N i] [] (I 2) []:=
 rule Vv [sp 2 (AB i 1 l1),sp 2 (AQ .i64 c1),sq 3 (AB i 1 l1),sq 0 (Bg _ (i+1) _ g1),sq 0 (BJ .u8 c3),sq 4 (Bg _ i _ g2),sq 0 (AX .u8 c5),sq 3 (Bg _ i _ g2),sq 0 (AX .u8 c6),sq 4 (Bg _ i _ g2),sq 0 (AX .u8 c7),sq 4 (Bg _ i _ g2),sq 0 (BJ .u8 c8)]
theorem AjS(l1:i<2000000000)(c1:((i+1:Nat):Int) < (s.length:Int))(g1:(s:List UInt8)[i+1]?=some c2)(c3:(c2.toNat:Int)=61)(g2:(s:List UInt8)[i]?=some c4)(c5:(c4.toNat:Int)≠61)(c6:(c4.toNat:Int)≠33)(c7:(c4.toNat:Int)≠60)(c8:(c4.toNat:Int)≠62)(L1:LL a168 0 [(0,str s),(1,N i),(44,slice false 1 (GU.map by8)),(45,I 18),(46,I 0)] [] (.exit 0) [(0,str s),(1,N i),(44,slice false 1 (GU.map by8))] []):E 168 [.str s,N i] [] (I 0) []:=
 rule Vv [sp 2 (AB i 1 l1),sp 2 (AQ .i64 c1),sq 3 (AB i 1 l1),sq 0 (Bg _ (i+1) _ g1),sq 0 (BJ .u8 c3),sq 4 (Bg _ i _ g2),sq 0 (AX .u8 c5),sq 3 (Bg _ i _ g2),sq 0 (AX .u8 c6),sq 4 (Bg _ i _ g2),sq 0 (AX .u8 c7),sq 4 (Bg _ i _ g2),sq 0 (AX .u8 c8),sl 7 [0,1,44,45,46] L1]
theorem xm(l1:i<2000000000)(c1:((i+1:Nat):Int) < (s.length:Int))(g1:(s:List UInt8)[i+1]?=some c2)(c3:(c2.toNat:Int)=61)(g2:(s:List UInt8)[i]?=some c4)(c5:(c4.toNat:Int)≠61)(c6:(c4.toNat:Int)≠33)(c7:(c4.toNat:Int)≠60)(c8:(c4.toNat:Int)≠62)(L1:LL a168 0 [(0,str s),(1,N i),(44,slice false 1 (GU.map by8)),(45,I 18),(46,I 0)] [] .ret [(4,I 1)] []):E 168 [.str s,N i] [] (I 1) []:=
 rule Vv [sp 2 (AB i 1 l1),sp 2 (AQ .i64 c1),sq 3 (AB i 1 l1),sq 0 (Bg _ (i+1) _ g1),sq 0 (BJ .u8 c3),sq 4 (Bg _ i _ g2),sq 0 (AX .u8 c5),sq 3 (Bg _ i _ g2),sq 0 (AX .u8 c6),sq 4 (Bg _ i _ g2),sq 0 (AX .u8 c7),sq 4 (Bg _ i _ g2),sq 0 (AX .u8 c8),sl 7 [0,1,44,45,46] L1]
theorem Yd(c1:¬(m1:Int) < 18):LL a168 0 [(0,str s),(1,N i),(44,slice false 1 (GU.map by8)),(45,I 18),(46,N m1)] [] (.exit 0) [(0,str s),(1,N i),(44,slice false 1 (GU.map by8))] []:=
 BA [0,1,44] [sp 0 (BN .i64 c1)]
theorem Yc(c1:(m1:Int) < 18)(g1:GU[m1]?=some c2)(g2:(s:List UInt8)[i]?=some c3)(c4:(c3.toNat:Int)=(c2.toNat:Int)):LL a168 0 [(0,str s),(1,N i),(44,slice false 1 (GU.map by8)),(45,I 18),(46,N m1)] [] .ret [(4,I 1)] []:=
 BA [4] [sp 0 (AQ .i64 c1),sp 1 (YS (o:=false) (s:=1) m1 g1),sp 4 (Bg _ i _ g2),sp 1 (BJ .u8 c4)]
theorem NN(c1:(m1:Int) < 18)(g1:GU[m1]?=some c2)(g2:(s:List UInt8)[i]?=some c3)(c4:(c3.toNat:Int)≠(c2.toNat:Int))(l1:m1<2000000000)(hl:LL a168 0 [(0,str s),(1,N i),(44,slice false 1 (GU.map by8)),(45,I 18),(46,N (m1+1))] [] e ff' σ'):LL a168 0 [(0,str s),(1,N i),(44,slice false 1 (GU.map by8)),(45,I 18),(46,N m1)] [] e ff' σ':=
 BM [0,1,44,45,46] [sp 0 (AQ .i64 c1),sp 1 (YS (o:=false) (s:=1) m1 g1),sp 4 (Bg _ i _ g2),sp 1 (AX .u8 c4),sp 1 (AB m1 1 l1)] hl
theorem uA:Rn 118 UG:=fun _ _ _=>rfl
theorem AkL(g1:(s:List UInt8)[i]?=some c1)(h1:E 164 [.int .u8 (c1.toNat:Int)] [] (.bool true) [])(h2:E 162 [.str s,N i,.func 165 [] []] [] (N m1) [])(x1:Be (.ssl true true) [.str s,N i,N m1]=some [some (.str s1)])(h3:E 167 [.str s1] [] (.bool true) []):E 118 [.str s,N i] [] (.tuple [I 1,N m1]) []:=
 rule uA [sp 4 (Bg _ i _ g1),st 0 (oC h1),st 4 (oC h2),sp 4 x1,st 0 (oC h3)]
theorem AkK(g1:(s:List UInt8)[i]?=some c1)(h1:E 164 [.int .u8 (c1.toNat:Int)] [] (.bool true) [])(h2:E 162 [.str s,N i,.func 165 [] []] [] (N m1) [])(x1:Be (.ssl true true) [.str s,N i,N m1]=some [some (.str s1)])(h3:E 167 [.str s1] [] (.bool false) []):E 118 [.str s,N i] [] (.tuple [I 0,N m1]) []:=
 rule uA [sp 4 (Bg _ i _ g1),st 0 (oC h1),st 4 (oC h2),sp 4 x1,st 0 (oC h3)]
theorem AkJ(g1:(s:List UInt8)[i]?=some c1)(h1:E 164 [.int .u8 (c1.toNat:Int)] [] (.bool false) [])(h2:E 166 [.int .u8 (c1.toNat:Int)] [] (.bool true) [])(h3:E 162 [.str s,N i,.func 166 [] []] [] (N m1) []):E 118 [.str s,N i] [] (.tuple [I 2,N m1]) []:=
 rule uA [sp 4 (Bg _ i _ g1),st 0 (oC h1),sp 4 (Bg _ i _ g1),st 0 (oC h2),st 4 (oC h3)]
theorem AkI(g1:(s:List UInt8)[i]?=some c1)(h1:E 164 [.int .u8 (c1.toNat:Int)] [] (.bool false) [])(h2:E 166 [.int .u8 (c1.toNat:Int)] [] (.bool false) [])(h3:E 168 [.str s,N i] [] (N m1) [])(c2:(m1:Int) > 0)(l1:i<2000000000)(l2:m1<2000000000):E 118 [.str s,N i] [] (.tuple [I 3,N (i+m1)]) []:=
 rule uA [sp 4 (Bg _ i _ g1),st 0 (oC h1),sp 4 (Bg _ i _ g1),st 0 (oC h2),st 4 (oC h3),sp 2 (CX .i64 c2),sp 3 (AB i m1 l1 l2)]
theorem AkH(g1:(s:List UInt8)[i]?=some c1)(h1:E 164 [.int .u8 (c1.toNat:Int)] [] (.bool false) [])(h2:E 166 [.int .u8 (c1.toNat:Int)] [] (.bool false) [])(h3:E 168 [.str s,N i] [] (N m1) [])(c2:¬(m1:Int) > 0)(l1:i<2000000000)(L1:LL UG 0 [(0,str s),(8,N (i+1))] [] (.exit 1) [(0,str s),(8,N m2)] []):E 118 [.str s,N i] [] (.tuple [I 4,N m2]) []:=
 rule uA [sp 4 (Bg _ i _ g1),st 0 (oC h1),sp 4 (Bg _ i _ g1),st 0 (oC h2),st 4 (oC h3),sp 2 (DI .i64 c2),sp 2 (AB i 1 l1),sl 1 [0,8] L1]
theorem Yq(c1:¬(m1:Int) < (s.length:Int)):LL UG 0 [(0,str s),(8,N m1)] [] (.exit 1) [(0,str s),(8,N m1)] []:=
 BA [0,8] [sp 3 (BN .i64 c1)]
theorem Yp(c1:(m1:Int) < (s.length:Int))(g1:(s:List UInt8)[m1]?=some c2)(h1:E 161 [.int .u8 (c2.toNat:Int)] [] (.bool true) []):LL UG 0 [(0,str s),(8,N m1)] [] (.exit 1) [(0,str s),(8,N m1)] []:=
 BA [0,8] [sp 3 (AQ .i64 c1),sq 3 (Bg _ m1 _ g1),sg 0 (oC h1)]
theorem Yo(c1:(m1:Int) < (s.length:Int))(g1:(s:List UInt8)[m1]?=some c2)(h1:E 161 [.int .u8 (c2.toNat:Int)] [] (.bool false) [])(c3:(c2.toNat:Int)=35):LL UG 0 [(0,str s),(8,N m1)] [] (.exit 1) [(0,str s),(8,N m1)] []:=
 BA [0,8] [sp 3 (AQ .i64 c1),sq 3 (Bg _ m1 _ g1),sg 0 (oC h1),sq 5 (Bg _ m1 _ g1),sq 0 (DF .u8 c3)]
theorem Yn(c1:(m1:Int) < (s.length:Int))(g1:(s:List UInt8)[m1]?=some c2)(h1:E 161 [.int .u8 (c2.toNat:Int)] [] (.bool false) [])(c3:(c2.toNat:Int)≠35)(h2:E 164 [.int .u8 (c2.toNat:Int)] [] (.bool true) []):LL UG 0 [(0,str s),(8,N m1)] [] (.exit 1) [(0,str s),(8,N m1)] []:=
 BA [0,8] [sp 3 (AQ .i64 c1),sq 3 (Bg _ m1 _ g1),sg 0 (oC h1),sq 5 (Bg _ m1 _ g1),sq 0 (DU .u8 c3),sq 4 (Bg _ m1 _ g1),sg 0 (oC h2)]
theorem Ym(c1:(m1:Int) < (s.length:Int))(g1:(s:List UInt8)[m1]?=some c2)(h1:E 161 [.int .u8 (c2.toNat:Int)] [] (.bool false) [])(c3:(c2.toNat:Int)≠35)(h2:E 164 [.int .u8 (c2.toNat:Int)] [] (.bool false) [])(h3:E 166 [.int .u8 (c2.toNat:Int)] [] (.bool true) []):LL UG 0 [(0,str s),(8,N m1)] [] (.exit 1) [(0,str s),(8,N m1)] []:=
 BA [0,8] [sp 3 (AQ .i64 c1),sq 3 (Bg _ m1 _ g1),sg 0 (oC h1),sq 5 (Bg _ m1 _ g1),sq 0 (DU .u8 c3),sq 4 (Bg _ m1 _ g1),sg 0 (oC h2),sq 5 (Bg _ m1 _ g1),sg 0 (oC h3)]
theorem Vn(c1:(m1:Int) < (s.length:Int))(g1:(s:List UInt8)[m1]?=some c2)(h1:E 161 [.int .u8 (c2.toNat:Int)] [] (.bool false) [])(c3:(c2.toNat:Int)≠35)(h2:E 164 [.int .u8 (c2.toNat:Int)] [] (.bool false) [])(h3:E 166 [.int .u8 (c2.toNat:Int)] [] (.bool false) [])(h4:E 168 [.str s,N m1] [] (N m2) [])(c4:(m2:Int)=0)(l1:m1<2000000000)(hl:LL UG 0 [(0,str s),(8,N (m1+1))] [] e ff' σ'):LL UG 0 [(0,str s),(8,N m1)] [] e ff' σ':=
 BM [0,8] [sp 3 (AQ .i64 c1),sq 3 (Bg _ m1 _ g1),sg 0 (oC h1),sq 5 (Bg _ m1 _ g1),sq 0 (DU .u8 c3),sq 4 (Bg _ m1 _ g1),sg 0 (oC h2),sq 5 (Bg _ m1 _ g1),sg 0 (oC h3),sg 5 (oC h4),sq 0 (BJ .i64 c4),sp 3 (AB m1 1 l1)] hl
theorem Yl(c1:(m1:Int) < (s.length:Int))(g1:(s:List UInt8)[m1]?=some c2)(h1:E 161 [.int .u8 (c2.toNat:Int)] [] (.bool false) [])(c3:(c2.toNat:Int)≠35)(h2:E 164 [.int .u8 (c2.toNat:Int)] [] (.bool false) [])(h3:E 166 [.int .u8 (c2.toNat:Int)] [] (.bool false) [])(h4:E 168 [.str s,N m1] [] (N m2) [])(c4:(m2:Int)≠0):LL UG 0 [(0,str s),(8,N m1)] [] (.exit 1) [(0,str s),(8,N m1)] []:=
 BA [0,8] [sp 3 (AQ .i64 c1),sq 3 (Bg _ m1 _ g1),sg 0 (oC h1),sq 5 (Bg _ m1 _ g1),sq 0 (DU .u8 c3),sq 4 (Bg _ m1 _ g1),sg 0 (oC h2),sq 5 (Bg _ m1 _ g1),sg 0 (oC h3),sg 5 (oC h4),sq 0 (AX .i64 c4)]
theorem BQ9:Rn 167 a167:=fun _ _ _=>rfl
theorem BjH{b1:Bool}(x1:Be (.look (.bool false) false false) [jG,.str w]=some [some (.bool b1)]):E 167 [.str w] [] (.bool b1) []:=
 rule BQ9 [st 1 (oC e153),sp 1 x1]
theorem R98:Rn 221 mK:=fun _ _ _=>rfl
theorem AJ1(c1:w=[]):E 221 [.str w] [] (.tuple [I 0,.bool false]) []:=
 rule R98 [sp 3 (Hr c1)]
theorem AJ0(c1:w≠[])(c2:(w.length:Int) > 9):E 221 [.str w] [] (.tuple [I 0,.bool false]) []:=
 rule R98 [sp 3 (Ip c1),sq 3 (CX .i64 c2)]
theorem AZZ(c1:w≠[])(c2:¬(w.length:Int) > 9)(h1:E 162 [.str w,I 0,.func 166 [] []] [] (N m1) [])(c3:(m1:Int) < (w.length:Int)):E 221 [.str w] [] (.tuple [I 0,.bool false]) []:=
 rule R98 [sp 3 (Ip c1),sq 3 (DI .i64 c2),sg 3 (oC h1),sq 2 (AQ .i64 c3)]
theorem AZY(c1:w≠[])(c2:¬(w.length:Int) > 9)(h1:E 162 [.str w,I 0,.func 166 [] []] [] (N m1) [])(c3:¬(m1:Int) < (w.length:Int))(L1:LL mK 0 [(4,I 0),(22,slice false 1 (w.map by8)),(23,N w.length),(24,I 0)] [] (.exit 0) [(4,I z1),(22,slice false 1 (w.map by8))] []):E 221 [.str w] [] (.tuple [I z1,.bool true]) []:=
 rule R98 [sp 3 (Ip c1),sq 3 (DI .i64 c2),sg 3 (oC h1),sq 2 (BN .i64 c3),sp 5 (xS false 1 w),sl 1 [4,22,23,24] L1]
theorem Xd{z2:Int}{z3:Int}{z4:Int}{z5:Int}(c1:(m1:Int) < (w.length:Int))(g1:w[m1]?=some c2)(w1:IntKind.i64.wrap (10 * z1)=z2)(w2:IntKind.u8.wrap ((c2.toNat:Int) - 48)=z3)(w3:IntKind.i64.wrap z3=z4)(w4:IntKind.i64.wrap (z2+z4)=z5)(l1:m1<2000000000)(hl:LL mK 0 [(4,I z5),(22,slice false 1 (w.map by8)),(23,N w.length),(24,N (m1+1))] [] e ff' σ'):LL mK 0 [(4,I z1),(22,slice false 1 (w.map by8)),(23,N w.length),(24,N m1)] [] e ff' σ':=
 BM [4,22,23,24] [sp 0 (AQ .i64 c1),sp 1 (YS (o:=false) (s:=1) m1 g1),sp 3 (fU w1),sp 1 (WG w2),sp 0 (Y0 (k:=.u8) w3),sp 0 (il w4),sp 1 (AB m1 1 l1)] hl
theorem ZZ(c1:¬(m1:Int) < (w.length:Int)):LL mK 0 [(4,I z1),(22,slice false 1 (w.map by8)),(23,N w.length),(24,N m1)] [] (.exit 0) [(4,I z1),(22,slice false 1 (w.map by8))] []:=
 BA [4,22] [sp 0 (BN .i64 c1)]
theorem R97:Rn 59 a59:=fun _ _ _=>rfl
theorem AJ2(c1:¬(s.length:Int) > 4096)(L1:LL a59 0 [(0,str s),(4,nils),(5,I 0)] [] .ret [(2,Bw 4 es1),(3,I 0)] []):E 59 [.str s] [] (.tuple [BG 4 es1,I 0]) []:=
 Bt R97 [sp 4 (DI .i64 c1),sl 3 [0,4,5] L1] (by simp[Gs,DL]:(Gm [(2,Bw 4 es1),(3,I 0)] [(2,none),(3,none)]).bind DL=some (.tuple [BG 4 es1,I 0]))
theorem Z4(h1:E 117 [.str s,N m1] [] (N m2) [])(c1:(m2:Int)=(s.length:Int))(l1:es1.length+1≤Bn):LL a59 0 [(0,str s),(4,Bw 4 es1),(5,N m1)] [] .ret [(2,Bw 4 (es1++[.agg [I 5,N m1,N m2,N m2]])),(3,I 0)] []:=
 BA [2,3] [st 2 (oC h1),sp 4 (BJ .i64 c1),sp 1 (KG 4 es1),st 5 (FV (Gr l1):Bh pur run (.p (.app 4)) [Bw 4 es1,.slice true 4 [.agg [I 5,N m1,N m2,N m2]]] [] [some (Bw 4 (es1++[.agg [I 5,N m1,N m2,N m2]])),some (BG 4 es1)] []),sp 0 (KG 4 (es1++[.agg [I 5,N m1,N m2,N m2]]))]
theorem Xe{m3:Nat}{m4:Nat}(h1:E 117 [.str s,N m1] [] (N m2) [])(c1:(m2:Int)≠(s.length:Int))(h2:E 118 [.str s,N m2] [] (.tuple [N m3,N m4]) [])(l1:es1.length+1≤Bn)(hl:LL a59 0 [(0,str s),(4,Bw 4 (es1++[.agg [N m3,N m1,N m2,N m4]])),(5,N m4)] [] e ff' σ'):LL a59 0 [(0,str s),(4,Bw 4 es1),(5,N m1)] [] e ff' σ':=
 BM [0,4,5] [st 2 (oC h1),sp 4 (AX .i64 c1),st 3 (oC h2),sp 5 (KG 4 es1),st 6 (FV (Gr l1):Bh pur run (.p (.app 4)) [Bw 4 es1,.slice true 4 [.agg [N m3,N m1,N m2,N m4]]] [] [some (Bw 4 (es1++[.agg [N m3,N m1,N m2,N m4]])),some (BG 4 es1)] []),sp 0 (KG 4 (es1++[.agg [N m3,N m1,N m2,N m4]]))] hl
end Go.Abs.Z
