/- A part of the proof: WR D19 D20. -/
import Derived.Test.YtapgnmhobbgmiaaGreatDoorKbf
import Derived.Test.YtapgnmhobbgmiaaGreatDoorKbb
import Derived.Test.YtapgnmhobbgmiaaGreatDoorKbe

set_option linter.unusedVariables false
set_option linter.unusedSimpArgs false
namespace Go.Abs.Z
open PV
open Go.Proofs Go.RowKit
variable{s s1 tx w s2:List UInt8}{ls tl1:List Tk}{k l c fi m1 m2:Nat}{es tl2:List PV}{t1:Tk}{dg1:Dg}{kd:Int}{us ts1:List Tr}{U1 U2 U3 U4 U5:Tr}{e:Cu}{ff':FF}{σ' σ σ1 σ2 σ3 σ4 σ5 σ6 σ7 σ8 σ9:Sto}{c2:UInt8}{b1 b2:Bool}
theorem R65:Rn 87 a87:=fun _ _ _=>rfl
theorem r65{t:Tk}(x1:Be (.ssl true true) [.str s,N t.a,N t.e]=some [some (.str s1)]):E 87 [.str s,t.pv] [] (.str s1) []:=
 rule R65 [sp 7 x1]
theorem R25:Rn 32 a32:=fun _ _ _=>rfl
theorem r25(g1:ls[k]?=some t1):E 32 [r0] [qc s ls k l es] (N t1.k) [qc s ls k l es]:=
 rule R25 [sp 9 (BO (o:=false) (s:=4) k g1)]
theorem R56:Rn 78 a78:=fun _ _ _=>rfl
theorem r56(g1:ls[k]?=some t1)(h1:E 87 [.str s,t1.pv] [] (.str s1) []):Hs 78 [qc s ls k l es] s1 [qc s ls k l es]:=
 rule R56 [sp 13 (BO (o:=false) (s:=4) k g1),st 1 (oCS [qc s ls k l es] h1)]
theorem R85:Rn 92 a92:=fun _ _ _=>rfl
theorem AJO(l1:k<2000000000)(c1:¬(((k+1):Nat):Int)≥(ls.length:Int))(g1:ls[k+1]?=some t1)(h1:E 87 [.str s,t1.pv] [] (.str s1) []):Hs 92 [qc s ls k l es] s1 [qc s ls k l es]:=
 rule R85 [sp 5 (AB k 1 l1),sp 4 (FL false 4 ls),sp 0 (LQ .i64 c1),sp 13 (AB k 1 l1),sp 0 (BO (o:=false) (s:=4) (k+1) g1),st 1 (oCS [qc s ls k l es] h1)]
theorem R30:Rn 37 a37:=fun _ _ _=>rfl
theorem r30(h1:Hs 78 [qc s ls k l es] s1 [qc s ls k l es])(g1:ls[k]?=some t1)(l1:k<2000000000):E 37 [r0] [qc s ls k l es] (.str s1) [qc s ls (k+1) t1.e es]:=
 rule R30 [st 2 (oW h1),sp 11 (BO (o:=false) (s:=4) k g1),sp 6 (AB k 1 l1),st 2 (Bj7:Bh pur run (.w (.st 1)) [.ref 0 3,N t1.e] [qc s ls k l es] [] [qc s ls k t1.e es]),st 2 (Bj8:Bh pur run (.w (.st 1)) [.ref 0 2,N (k+1)] [qc s ls k t1.e es] [] [qc s ls (k+1) t1.e es])]
theorem R29:Rn 36 a36:=fun _ _ _=>rfl
theorem AVW(g1:ls[k]?=some t1)(c1:¬(es.length:Int) > 0)(l1:es.length+1≤Bn):E 36 [r0,N c,.str tx] [qc s ls k l es] (.tuple []) [qc s ls k l (es++[.agg [N c,N t1.a,N t1.e,.str tx,.nils]])]:=
 rule R29 [sp 8 (BO (o:=false) (s:=4) k g1),st 6 (QS [qc s ls k l es] ldQ),sp 0 (MO 5 es),sp 2 (DI .i64 c1),st 19 (AWS:Bh pur run (.w .ldo) [.ref 0 4] [qc s ls k l es] [some (Bw 5 es)] [qd s ls k l es]),st 8 (FV (Gr l1):Bh pur run (.p (.app 5)) [Bw 5 es,.slice true 5 [.agg [N c,N t1.a,N t1.e,.str tx,.nils]]] [qd s ls k l es] [some (Bw 5 (es++[.agg [N c,N t1.a,N t1.e,.str tx,.nils]])),some (BG 5 es)] [qd s ls k l es]),st 2 (AZO:Bh pur run (.w .sto) [.ref 0 4,Bw 5 (es++[.agg [N c,N t1.a,N t1.e,.str tx,.nils]])] [qd s ls k l es] [some (BG 5 (es++[.agg [N c,N t1.a,N t1.e,.str tx,.nils]]))] [qc s ls k l (es++[.agg [N c,N t1.a,N t1.e,.str tx,.nils]])])]
theorem AVV(g1:ls[k]?=some t1)(c1:(es.length:Int) > 0)(l1:1≤es.length)(l2:es.length<2000000000)(g2:es[es.length - 1]?=some dg1.pv)(c2:(dg1.a:Int)=(t1.a:Int)):E 36 [r0,N c,.str tx] [qc s ls k l es] (.tuple []) [qc s ls k l es]:=
 rule R29 [sp 8 (BO (o:=false) (s:=4) k g1),st 6 (QS [qc s ls k l es] ldQ),sp 0 (MO 5 es),sp 2 (CX .i64 c1),sg 4 (QS [qc s ls k l es] ldQ),sq 1 (Dl es.length 1 l1 l2),sq 0 (cB (s:=5) (es.length - 1) g2),sq 4 (BJ .i64 c2)]
theorem AVU(g1:ls[k]?=some t1)(c1:(es.length:Int) > 0)(l1:1≤es.length)(l2:es.length<2000000000)(g2:es[es.length - 1]?=some dg1.pv)(c2:(dg1.a:Int)≠(t1.a:Int))(l3:es.length+1≤Bn):E 36 [r0,N c,.str tx] [qc s ls k l es] (.tuple []) [qc s ls k l (es++[.agg [N c,N t1.a,N t1.e,.str tx,.nils]])]:=
 rule R29 [sp 8 (BO (o:=false) (s:=4) k g1),st 6 (QS [qc s ls k l es] ldQ),sp 0 (MO 5 es),sp 2 (CX .i64 c1),sg 4 (QS [qc s ls k l es] ldQ),sq 1 (Dl es.length 1 l1 l2),sq 0 (cB (s:=5) (es.length - 1) g2),sq 4 (AX .i64 c2),st 6 (AWS:Bh pur run (.w .ldo) [.ref 0 4] [qc s ls k l es] [some (Bw 5 es)] [qd s ls k l es]),st 8 (FV (Gr l3):Bh pur run (.p (.app 5)) [Bw 5 es,.slice true 5 [.agg [N c,N t1.a,N t1.e,.str tx,.nils]]] [qd s ls k l es] [some (Bw 5 (es++[.agg [N c,N t1.a,N t1.e,.str tx,.nils]])),some (BG 5 es)] [qd s ls k l es]),st 2 (AZO:Bh pur run (.w .sto) [.ref 0 4,Bw 5 (es++[.agg [N c,N t1.a,N t1.e,.str tx,.nils]])] [qd s ls k l es] [some (BG 5 (es++[.agg [N c,N t1.a,N t1.e,.str tx,.nils]]))] [qc s ls k l (es++[.agg [N c,N t1.a,N t1.e,.str tx,.nils]])])]
theorem R31:Rn 38 a38:=fun _ _ _=>rfl
theorem Aj2(c1:(fi:Int) < (k:Int))(g1:ls[fi]?=some t1):E 38 [r0,N fi,I kd,.str tx,.nils] [qc s ls k l es] (.agg [I kd,.str tx,N t1.a,N l,.nils]) [qc s ls k l es]:=
 rule R31 [sp 20 (AQ .i64 c1),sp 6 (BO (o:=false) (s:=4) fi g1)]
theorem Aj1(c1:¬(fi:Int) < (k:Int)):E 38 [r0,N fi,I kd,.str tx,.nils] [qc s ls k l es] (.agg [I kd,.str tx,N l,N l,.nils]) [qc s ls k l es]:=
 rule R31 [sp 20 (BN .i64 c1)]
theorem AVT(c1:(fi:Int) < (k:Int))(g1:ls[fi]?=some t1)(c2:¬(us.length:Int) > 0):E 38 [r0,N fi,I kd,.str tx,.slice false 5 (Tr.pvs us)] [qc s ls k l es] (.agg [I kd,.str tx,N t1.a,N l,.slice false 5 (Tr.pvs us)]) [qc s ls k l es]:=
 rule R31 [sp 20 (AQ .i64 c1),sp 6 (BO (o:=false) (s:=4) fi g1),sp 5 (FZ false 5 us),sp 0 (DI .i64 c2)]
theorem AVS(c1:¬(fi:Int) < (k:Int))(c2:¬(us.length:Int) > 0):E 38 [r0,N fi,I kd,.str tx,.slice false 5 (Tr.pvs us)] [qc s ls k l es] (.agg [I kd,.str tx,N l,N l,.slice false 5 (Tr.pvs us)]) [qc s ls k l es]:=
 rule R31 [sp 20 (BN .i64 c1),sp 2 (FZ false 5 us),sp 0 (DI .i64 c2)]
theorem AVR(c1:(fi:Int) < (k:Int))(g1:ls[fi]?=some t1)(c2:(us.length:Int) > 0)(g2:us[0]?=some U1)(c3:U1.st<(t1.a:Int))(g3:us[0]?=some U2):E 38 [r0,N fi,I kd,.str tx,.slice false 5 (Tr.pvs us)] [qc s ls k l es] (.agg [I kd,.str tx,I U2.st,N l,.slice false 5 (Tr.pvs us)]) [qc s ls k l es]:=
 rule R31 [sp 20 (AQ .i64 c1),sp 6 (BO (o:=false) (s:=4) fi g1),sp 5 (FZ false 5 us),sp 0 (CX .i64 c2),sq 2 (Gn (o:=false) (s:=5) 0 g2),sq 0 (EB U1),sq 3 (AQ .i64 c3),sp 3 (Gn (o:=false) (s:=5) 0 g3),sp 0 (EB U2)]
theorem AVQ(c1:(fi:Int) < (k:Int))(g1:ls[fi]?=some t1)(c2:(us.length:Int) > 0)(g2:us[0]?=some U1)(c3:¬U1.st<(t1.a:Int)):E 38 [r0,N fi,I kd,.str tx,.slice false 5 (Tr.pvs us)] [qc s ls k l es] (.agg [I kd,.str tx,N t1.a,N l,.slice false 5 (Tr.pvs us)]) [qc s ls k l es]:=
 rule R31 [sp 20 (AQ .i64 c1),sp 6 (BO (o:=false) (s:=4) fi g1),sp 5 (FZ false 5 us),sp 0 (CX .i64 c2),sq 2 (Gn (o:=false) (s:=5) 0 g2),sq 0 (EB U1),sq 3 (BN .i64 c3)]
theorem AVP(c1:¬(fi:Int) < (k:Int))(c2:(us.length:Int) > 0)(g1:us[0]?=some U1)(c3:U1.st<(l:Int))(g2:us[0]?=some U2):E 38 [r0,N fi,I kd,.str tx,.slice false 5 (Tr.pvs us)] [qc s ls k l es] (.agg [I kd,.str tx,I U2.st,N l,.slice false 5 (Tr.pvs us)]) [qc s ls k l es]:=
 rule R31 [sp 20 (BN .i64 c1),sp 2 (FZ false 5 us),sp 0 (CX .i64 c2),sq 2 (Gn (o:=false) (s:=5) 0 g1),sq 0 (EB U1),sq 3 (AQ .i64 c3),sp 3 (Gn (o:=false) (s:=5) 0 g2),sp 0 (EB U2)]
theorem AVO(c1:¬(fi:Int) < (k:Int))(c2:(us.length:Int) > 0)(g1:us[0]?=some U1)(c3:¬U1.st<(l:Int)):E 38 [r0,N fi,I kd,.str tx,.slice false 5 (Tr.pvs us)] [qc s ls k l es] (.agg [I kd,.str tx,N l,N l,.slice false 5 (Tr.pvs us)]) [qc s ls k l es]:=
 rule R31 [sp 20 (BN .i64 c1),sp 2 (FZ false 5 us),sp 0 (CX .i64 c2),sq 2 (Gn (o:=false) (s:=5) 0 g1),sq 0 (EB U1),sq 3 (BN .i64 c3)]
theorem BxX:Rn 135 Zk:=fun _ _ _=>rfl
theorem Av5{ws:List (List UInt8)}(L1:LL Zk 0 [(0,slice false 1 (ws.map PV.str)),(1,str w),(5,I 0)] [] (.exit 0) [] []):E 135 [.slice false 1 (ws.map PV.str),.str w] [] (.bool false) []:=
 rule BxX [sl 2 [0,1,5] L1]
theorem Av4{ws:List (List UInt8)}(L1:LL Zk 0 [(0,slice false 1 (ws.map PV.str)),(1,str w),(5,I 0)] [] .ret [(4,bool true)] []):E 135 [.slice false 1 (ws.map PV.str),.str w] [] (.bool true) []:=
 rule BxX [sl 2 [0,1,5] L1]
theorem Yv{ws:List (List UInt8)}(c1:¬(m1:Int) < (ws.length:Int)):LL Zk 0 [(0,slice false 1 (ws.map PV.str)),(1,str w),(5,N m1)] [] (.exit 0) [] []:=
 BA [] [sp 2 (MN false 1 ws),sp 0 (BN .i64 c1)]
theorem Yu{ws:List (List UInt8)}(c1:(m1:Int) < (ws.length:Int))(g1:ws[m1]?=some s1)(c2:s1=w):LL Zk 0 [(0,slice false 1 (ws.map PV.str)),(1,str w),(5,N m1)] [] .ret [(4,bool true)] []:=
 BA [4] [sp 2 (MN false 1 ws),sp 0 (AQ .i64 c1),sp 3 (PH (o:=false) (s:=1) m1 g1),sp 2 (Hr c2)]
theorem NS{ws:List (List UInt8)}(c1:(m1:Int) < (ws.length:Int))(g1:ws[m1]?=some s1)(c2:s1≠w)(l1:m1<2000000000)(hl:LL Zk 0 [(0,slice false 1 (ws.map PV.str)),(1,str w),(5,N (m1+1))] [] e ff' σ'):LL Zk 0 [(0,slice false 1 (ws.map PV.str)),(1,str w),(5,N m1)] [] e ff' σ':=
 BM [0,1,5] [sp 2 (MN false 1 ws),sp 0 (AQ .i64 c1),sp 3 (PH (o:=false) (s:=1) m1 g1),sp 2 (Ip c2),sp 2 (AB m1 1 l1)] hl
theorem BQH:Rn 133 iy:=fun _ _ _=>rfl
theorem BjQ(L1:LL iy 0 [(0,str w)] [] (.exit 0) [(0,str s1)] []):E 133 [.str w] [] (.str s1) []:=
 rule BQH [sl 1 [0] L1]
theorem LF(c1:¬(s1.length:Int) > 1):LL iy 0 [(0,str s1)] [] (.exit 0) [(0,str s1)] []:=
 BA [0] [sp 2 (DI .i64 c1)]
theorem Vo(c1:(s1.length:Int) > 1)(g1:(s1:List UInt8)[0]?=some c2)(c3:(c2.toNat:Int)=48)(x1:Be (.ssl true false) [.str s1,I 1]=some [some (.str s2)])(hl:LL iy 0 [(0,str s2)] [] e ff' σ'):LL iy 0 [(0,str s1)] [] e ff' σ':=
 BM [0] [sp 2 (CX .i64 c1),sq 2 (Bg _ 0 _ g1),sq 0 (BJ .u8 c3),sp 3 x1] hl
theorem Yt(c1:(s1.length:Int) > 1)(g1:(s1:List UInt8)[0]?=some c2)(c3:(c2.toNat:Int)≠48):LL iy 0 [(0,str s1)] [] (.exit 0) [(0,str s1)] []:=
 BA [0] [sp 2 (CX .i64 c1),sq 2 (Bg _ 0 _ g1),sq 0 (AX .u8 c3)]
theorem R72:Rn 89 a89:=fun _ _ _=>rfl
theorem wO(h1:Hc σ m1)(c1:(m1:Int)≠5)(h2:Hs 78 σ s1 σ)(h3:E 135 [.slice false 1 [.str [111,114]],.str s1] [] (.bool b1) []):E 89 [r0,I 1] σ (.bool b1) σ:=
 rule R72 [st 2 (oW h1),sp 0 (DU .i64 c1),sg 2 (oCS σ AQB),sg 1 (oW h2),sg 0 (oCS σ h3)]
theorem wN(h1:Hc σ m1)(c1:(m1:Int)=5):E 89 [r0,I 1] σ (.bool false) σ:=
 rule R72 [st 2 (oW h1),sp 0 (DF .i64 c1)]
theorem wM(h1:Hc σ m1)(c1:(m1:Int)≠5)(h2:Hs 78 σ s1 σ)(h3:E 135 [.slice false 1 [.str [97,110,100]],.str s1] [] (.bool b1) []):E 89 [r0,I 2] σ (.bool b1) σ:=
 rule R72 [st 2 (oW h1),sp 0 (DU .i64 c1),sg 2 (oCS σ AQA),sg 1 (oW h2),sg 0 (oCS σ h3)]
theorem wL(h1:Hc σ m1)(c1:(m1:Int)=5):E 89 [r0,I 2] σ (.bool false) σ:=
 rule R72 [st 2 (oW h1),sp 0 (DF .i64 c1)]
theorem wK(h1:Hc σ m1)(c1:(m1:Int)≠5)(h2:Hs 78 σ s1 σ)(h3:E 135 [.slice false 1 [.str [61,61],.str [33,61],.str [60],.str [60,61],.str [62],.str [62,61]],.str s1] [] (.bool b1) []):E 89 [r0,I 4] σ (.bool b1) σ:=
 rule R72 [st 2 (oW h1),sp 0 (DU .i64 c1),sg 2 (oCS σ AQ9),sg 1 (oW h2),sg 0 (oCS σ h3)]
theorem wJ(h1:Hc σ m1)(c1:(m1:Int)=5):E 89 [r0,I 4] σ (.bool false) σ:=
 rule R72 [st 2 (oW h1),sp 0 (DF .i64 c1)]
theorem wI(h1:Hc σ m1)(c1:(m1:Int)≠5)(h2:Hs 78 σ s1 σ)(h3:E 135 [.slice false 1 [.str [43],.str [45]],.str s1] [] (.bool b1) []):E 89 [r0,I 5] σ (.bool b1) σ:=
 rule R72 [st 2 (oW h1),sp 0 (DU .i64 c1),sg 2 (oCS σ AQ8),sg 1 (oW h2),sg 0 (oCS σ h3)]
theorem wH(h1:Hc σ m1)(c1:(m1:Int)=5):E 89 [r0,I 5] σ (.bool false) σ:=
 rule R72 [st 2 (oW h1),sp 0 (DF .i64 c1)]
theorem wG(h1:Hc σ m1)(c1:(m1:Int)≠5)(h2:Hs 78 σ s1 σ)(h3:E 135 [.slice false 1 [.str [42],.str [47],.str [37]],.str s1] [] (.bool b1) []):E 89 [r0,I 6] σ (.bool b1) σ:=
 rule R72 [st 2 (oW h1),sp 0 (DU .i64 c1),sg 2 (oCS σ AQ7),sg 1 (oW h2),sg 0 (oCS σ h3)]
theorem wF(h1:Hc σ m1)(c1:(m1:Int)=5):E 89 [r0,I 6] σ (.bool false) σ:=
 rule R72 [st 2 (oW h1),sp 0 (DF .i64 c1)]
theorem R26:Rn 33 a33:=fun _ _ _=>rfl
theorem AVY(h1:Hc σ m1)(c1:(m1:Int)≠5)(h2:Hs 78 σ s1 σ):E 33 [r0,.str w] σ (.bool (s1==w)) σ:=
 rule R26 [st 2 (oW h1),sp 0 (DU .i64 c1),sg 2 (oW h2)]
theorem AVX(h1:Hc σ m1)(c1:(m1:Int)=5):Hb 33 w σ false σ:=
 rule R26 [st 2 (oW h1),sp 0 (DF .i64 c1)]
theorem R60:Rn 82 a82:=fun _ _ _=>rfl
theorem AKU(h1:Hb 33 w σ true σ)(h2:Hs 37 σ s1 σ1):Hb 82 w σ true σ1:=
 rule R60 [st 3 (oW h1),st 2 (oW h2)]
theorem AKT(h1:Hb 33 w σ false σ):Hb 82 w σ false σ:=
 rule R60 [st 3 (oW h1)]
theorem R58:Rn 80 a80:=fun _ _ _=>rfl
theorem y9(h1:Hb 82 w σ true σ1):Hb 80 w σ true σ1:=
 rule R58 [st 3 (oW h1)]
theorem y8(h1:Hb 82 w σ false σ1)(h2:E 36 [r0,I 4,.str w] σ1 (.tuple []) σ2):Hb 80 w σ false σ2:=
 rule R58 [st 3 (oW h1),st 3 (oW h2)]
theorem R57:Rn 79 a79:=fun _ _ _=>rfl
theorem AKZ(h1:Hc σ m1)(c1:(m1:Int)=0)(h2:Hs 37 σ s1 σ1):Hs 79 σ s1 σ1:=
 rule R57 [st 2 (oW h1),sp 0 (BJ .i64 c1),st 2 (oW h2)]
theorem AKY(h1:Hc σ m1)(c1:(m1:Int)≠0)(h2:E 36 [r0,I 4,.str [110,97,109,101]] σ (.tuple []) σ1):Hs 79 σ [] σ1:=
 rule R57 [st 2 (oW h1),sp 0 (AX .i64 c1),st 2 (oW h2)]
theorem R84:Rn 91 a91:=fun _ _ _=>rfl
theorem AJV(h1:Hc σ m1)(c1:(m1:Int)=0):E 91 [r0] σ (.bool true) σ:=
 rule R84 [st 2 (oW h1),sp 0 (BJ .i64 c1)]
theorem AJU(h1:Hc σ m1)(c1:(m1:Int)≠0)(c2:(m1:Int)=2):E 91 [r0] σ (.bool true) σ:=
 rule R84 [st 2 (oW h1),sp 0 (AX .i64 c1),sg 2 (oW h1),sq 0 (BJ .i64 c2)]
theorem AJT(h1:Hc σ m1)(c1:(m1:Int)≠0)(c2:(m1:Int)≠2)(h2:Hb 33 [116,114,117,101] σ true σ):E 91 [r0] σ (.bool true) σ:=
 rule R84 [st 2 (oW h1),sp 0 (AX .i64 c1),sg 2 (oW h1),sq 0 (AX .i64 c2),sg 3 (oW h2)]
theorem AJS(h1:Hc σ m1)(c1:(m1:Int)≠0)(c2:(m1:Int)≠2)(h2:Hb 33 [116,114,117,101] σ false σ)(h3:Hb 33 [102,97,108,115,101] σ true σ):E 91 [r0] σ (.bool true) σ:=
 rule R84 [st 2 (oW h1),sp 0 (AX .i64 c1),sg 2 (oW h1),sq 0 (AX .i64 c2),sg 3 (oW h2),sg 3 (oW h3)]
theorem AJR(h1:Hc σ m1)(c1:(m1:Int)≠0)(c2:(m1:Int)≠2)(h2:Hb 33 [116,114,117,101] σ false σ)(h3:Hb 33 [102,97,108,115,101] σ false σ)(h4:Hb 33 [108,101,110] σ true σ):E 91 [r0] σ (.bool true) σ:=
 rule R84 [st 2 (oW h1),sp 0 (AX .i64 c1),sg 2 (oW h1),sq 0 (AX .i64 c2),sg 3 (oW h2),sg 3 (oW h3),sg 3 (oW h4)]
theorem AJQ(h1:Hc σ m1)(c1:(m1:Int)≠0)(c2:(m1:Int)≠2)(h2:Hb 33 [116,114,117,101] σ false σ)(h3:Hb 33 [102,97,108,115,101] σ false σ)(h4:Hb 33 [108,101,110] σ false σ)(h5:Hb 33 [40] σ true σ):E 91 [r0] σ (.bool true) σ:=
 rule R84 [st 2 (oW h1),sp 0 (AX .i64 c1),sg 2 (oW h1),sq 0 (AX .i64 c2),sg 3 (oW h2),sg 3 (oW h3),sg 3 (oW h4),sg 3 (oW h5)]
theorem AJP(h1:Hc σ m1)(c1:(m1:Int)≠0)(c2:(m1:Int)≠2)(h2:Hb 33 [116,114,117,101] σ false σ)(h3:Hb 33 [102,97,108,115,101] σ false σ)(h4:Hb 33 [108,101,110] σ false σ)(h5:Hb 33 [40] σ false σ)(h6:Hb 33 [91] σ b1 σ):E 91 [r0] σ (.bool b1) σ:=
 rule R84 [st 2 (oW h1),sp 0 (AX .i64 c1),sg 2 (oW h1),sq 0 (AX .i64 c2),sg 3 (oW h2),sg 3 (oW h3),sg 3 (oW h4),sg 3 (oW h5),sg 3 (oW h6)]
theorem yR:Rn 131 a131:=fun _ _ _=>rfl
theorem Av9(h1:Hc σ m1)(c1:(m1:Int)=5):E 131 [r0] σ (.bool true) σ:=
 rule yR [st 2 (oW h1),sp 0 (BJ .i64 c1)]
theorem Av8(h1:Hc σ m1)(c1:(m1:Int)≠5)(h2:Hb 33 [125] σ true σ):E 131 [r0] σ (.bool true) σ:=
 rule yR [st 2 (oW h1),sp 0 (AX .i64 c1),sg 2 (oW h2)]
theorem Av7(h1:Hc σ m1)(c1:(m1:Int)≠5)(h2:Hb 33 [125] σ false σ)(h3:Hb 33 [112,114,111,99] σ true σ):E 131 [r0] σ (.bool true) σ:=
 rule yR [st 2 (oW h1),sp 0 (AX .i64 c1),sg 2 (oW h2),sg 3 (oW h3)]
theorem Av6(h1:Hc σ m1)(c1:(m1:Int)≠5)(h2:Hb 33 [125] σ false σ)(h3:Hb 33 [112,114,111,99] σ false σ)(h4:Hb 33 [114,101,99,111,114,100] σ b1 σ):E 131 [r0] σ (.bool b1) σ:=
 rule yR [st 2 (oW h1),sp 0 (AX .i64 c1),sg 2 (oW h2),sg 3 (oW h3),sg 3 (oW h4)]
theorem BxT:Rn 137 BwI:=fun _ _ _=>rfl
theorem AkP(h1:Hc σ m1)(c1:(m1:Int)=1)(h2:Hs 78 σ s1 σ)(h3:E 135 [.slice false 1 [.str [118,97,114],.str [105,102],.str [119,104,105,108,101],.str [102,111,114],.str [114,101,116,117,114,110],.str [97,115,115,101,114,116]],.str s1] [] (.bool b1) []):E 137 [r0] σ (.bool b1) σ:=
 rule BxT [st 2 (oW h1),sp 0 (BJ .i64 c1),sg 3 (oW h2),sg 0 (Fy h3:Bh pur run (.c 135) [.slice true 1 [.str [118,97,114],.str [105,102],.str [119,104,105,108,101],.str [102,111,114],.str [114,101,116,117,114,110],.str [97,115,115,101,114,116]],.str s1] σ [some (.bool b1)] σ)]
theorem AkO(h1:Hc σ m1)(c1:(m1:Int)≠1):E 137 [r0] σ (.bool false) σ:=
 rule BxT [st 2 (oW h1),sp 0 (AX .i64 c1)]
theorem BQG:Rn 134 BwK:=fun _ _ _=>rfl
theorem BjP(x1:Hk σ m1)(h1:Hs 79 σ s1 σ1)(h2:Hn m1 20 s1 .nils σ1 U1):Ht 134 σ U1 σ1:=
 Bt BQG [st 4 (QS σ x1),st 2 (oW h1),st 4 (oW h2),st 0 (zl σ1 U1)] (rz 2 U1)
theorem R87:Rn 94 a94:=fun _ _ _=>rfl
theorem AJL(x1:Hk σ m1)(h1:Ht 134 σ U1 σ1)(h2:Hb 82 [91] σ1 true σ2)(h3:Hx 1 σ2 U2 σ3)(h4:Hb 80 [93] σ3 b1 σ4)(h5:Hn m1 21 [] (.slice false 5 [U1.pv,U2.pv]) σ4 U3):Ht 94 σ U3 σ4:=
 Bt R87 [st 4 (QS σ x1),st 2 (oW h1),sp 1 (BF U1),st 1 (oW h2),st 3 (oW h3),sp 1 (BF U2),st 1 (oW h4),st 2 (QS σ4 (Bu U1)),st 0 (QS σ4 (Bu U2)),st 0 (bz2 σ4 U1 U2),st 0 (wn h5),st 0 (zl σ4 U3)] (rz 2 U3)
theorem AJK(x1:Hk σ m1)(h1:Ht 134 σ U1 σ1)(h2:Hb 82 [91] σ1 false σ2)(h3:Hb 82 [46] σ2 true σ3)(h4:Hs 79 σ3 s1 σ4)(h5:Hn m1 22 s1 (.slice false 5 [U1.pv]) σ4 U2):Ht 94 σ U2 σ4:=
 Bt R87 [st 4 (QS σ x1),st 2 (oW h1),sp 1 (BF U1),st 1 (oW h2),st 3 (oW h3),st 3 (oW h4),st 4 (QS σ4 (Bu U1)),st 0 (bz1 σ4 U1),st 0 (wn h5),st 0 (zl σ4 U2)] (rz 2 U2)
theorem AJJ(x1:Hk σ m1)(h1:Ht 134 σ U1 σ1)(h2:Hb 82 [91] σ1 false σ2)(h3:Hb 82 [46] σ2 false σ3):Ht 94 σ U1 σ3:=
 Bt R87 [st 4 (QS σ x1),st 2 (oW h1),sp 1 (BF U1),st 1 (oW h2),st 3 (oW h3),st 2 (QS σ3 (Bu U1)),st 0 (zl σ3 U1)] (rz 2 U1)
theorem R59:Rn 81 a81:=fun _ _ _=>rfl
theorem AKX(x1:Hk σ m1)(h1:Hs 79 σ s1 σ1)(h2:Hb 80 [58] σ1 b1 σ2)(x2:Hk σ2 m2)(h3:Hb 33 [105,110,116] σ2 true σ2)(h4:Hs 37 σ2 s2 σ3)(h5:Hn m2 9 s2 .nils σ3 U1)(h6:Hn m1 4 s1 (.slice false 5 [U1.pv]) σ3 U2):Ht 81 σ U2 σ3:=
 Bt R59 [st 4 (QS σ x1),st 2 (oW h1),st 2 (oW h2),st 3 (QS σ2 x2),st 2 (oW h3),st 6 (oW h4),st 4 (oW h5),sp 1 (BF U1),st 3 (QS σ3 (Bu U1)),st 0 (bz1 σ3 U1),st 0 (wn h6),st 0 (zl σ3 U2)] (rz 2 U2)
theorem AKW(x1:Hk σ m1)(h1:Hs 79 σ s1 σ1)(h2:Hb 80 [58] σ1 b1 σ2)(x2:Hk σ2 m2)(h3:Hb 33 [105,110,116] σ2 false σ2)(h4:Hb 33 [98,111,111,108] σ2 true σ2)(h5:Hs 37 σ2 s2 σ3)(h6:Hn m2 9 s2 .nils σ3 U1)(h7:Hn m1 4 s1 (.slice false 5 [U1.pv]) σ3 U2):Ht 81 σ U2 σ3:=
 Bt R59 [st 4 (QS σ x1),st 2 (oW h1),st 2 (oW h2),st 3 (QS σ2 x2),st 2 (oW h3),sg 2 (oW h4),st 3 (oW h5),st 4 (oW h6),sp 1 (BF U1),st 3 (QS σ3 (Bu U1)),st 0 (bz1 σ3 U1),st 0 (wn h7),st 0 (zl σ3 U2)] (rz 2 U2)
theorem AKV(x1:Hk σ m1)(h1:Hs 79 σ s1 σ1)(h2:Hb 80 [58] σ1 b1 σ2)(x2:Hk σ2 m2)(h3:Hb 33 [105,110,116] σ2 false σ2)(h4:Hb 33 [98,111,111,108] σ2 false σ2)(h5:E 36 [r0,I 4,.str [116,121,112,101]] σ2 (.tuple []) σ3)(h6:Hn m2 1 [] .nils σ3 U1)(h7:Hn m1 4 s1 (.slice false 5 [U1.pv]) σ3 U2):Ht 81 σ U2 σ3:=
 Bt R59 [st 4 (QS σ x1),st 2 (oW h1),st 2 (oW h2),st 3 (QS σ2 x2),st 2 (oW h3),sg 2 (oW h4),st 3 (oW h5),st 2 (oW h6),sp 1 (BF U1),st 3 (QS σ3 (Bu U1)),st 0 (bz1 σ3 U1),st 0 (wn h7),st 0 (zl σ3 U2)] (rz 2 U2)
theorem mO:Rn 130 a130:=fun _ _ _=>rfl
theorem AvF(x1:Hk σ m1)(h1:Hb 82 [98,111,111,108] σ true σ1)(h2:Hn m1 9 [98,111,111,108] .nils σ1 U1):Ht 130 σ U1 σ1:=
 Bt mO [st 4 (QS σ x1),st 2 (oW h1),st 4 (oW h2),st 0 (zl σ1 U1)] (rz 2 U1)
theorem AvE(x1:Hk σ m1)(h1:Hb 82 [98,111,111,108] σ false σ1)(h2:Hb 82 [105,110,116] σ1 true σ2)(h3:Hb 82 [91] σ2 false σ3)(h4:Hn m1 9 [105,110,116] .nils σ3 U1):Ht 130 σ U1 σ3:=
 Bt mO [st 4 (QS σ x1),st 2 (oW h1),st 3 (oW h2),st 3 (oW h3),st 4 (oW h4),st 0 (zl σ3 U1)] (rz 2 U1)
theorem AvD(x1:Hk σ m1)(h1:Hb 82 [98,111,111,108] σ false σ1)(h2:Hb 82 [105,110,116] σ1 false σ2)(h3:Hc σ2 m2)(c1:(m2:Int)=0)(h4:Hs 37 σ2 s1 σ3)(h5:Hn m1 9 s1 .nils σ3 U1):Ht 130 σ U1 σ3:=
 Bt mO [st 4 (QS σ x1),st 2 (oW h1),st 3 (oW h2),st 3 (oW h3),sp 0 (BJ .i64 c1),st 5 (oW h4),st 0 (oW h5),st 0 (zl σ3 U1)] (rz 2 U1)
theorem AvC(x1:Hk σ m1)(h1:Hb 82 [98,111,111,108] σ false σ1)(h2:Hb 82 [105,110,116] σ1 false σ2)(h3:Hc σ2 m2)(c1:(m2:Int)≠0)(h4:E 36 [r0,I 4,.str [116,121,112,101]] σ2 (.tuple []) σ3)(h5:Hn m1 1 [] .nils σ3 U1):Ht 130 σ U1 σ3:=
 Bt mO [st 4 (QS σ x1),st 2 (oW h1),st 3 (oW h2),st 3 (oW h3),sp 0 (AX .i64 c1),st 3 (oW h4),st 2 (oW h5),st 0 (zl σ3 U1)] (rz 2 U1)
theorem AvB(x1:Hk σ m1)(h1:Hb 82 [98,111,111,108] σ false σ1)(h2:Hb 82 [105,110,116] σ1 true σ2)(h3:Hb 82 [91] σ2 true σ3)(h4:Hc σ3 m2)(c1:(m2:Int)=2)(h5:Hs 37 σ3 s1 σ4)(h6:E 133 [.str s1] [] (.str s2) [])(h7:Hb 80 [93] σ4 b1 σ5)(h8:Hn m1 10 s2 .nils σ5 U1):Ht 130 σ U1 σ5:=
 Bt mO [st 4 (QS σ x1),st 2 (oW h1),st 3 (oW h2),st 3 (oW h3),st 4 (oW h4),sp 0 (BJ .i64 c1),st 2 (oW h5),st 0 (oCS σ4 h6),st 2 (oW h7),st 3 (oW h8),st 0 (zl σ5 U1)] (rz 2 U1)
theorem AvA(x1:Hk σ m1)(h1:Hb 82 [98,111,111,108] σ false σ1)(h2:Hb 82 [105,110,116] σ1 true σ2)(h3:Hb 82 [91] σ2 true σ3)(h4:Hc σ3 m2)(c1:(m2:Int)≠2)(h5:E 36 [r0,I 4,.str [110,117,109,98,101,114]] σ3 (.tuple []) σ4)(h6:Hb 80 [93] σ4 b1 σ5)(h7:Hn m1 10 [] .nils σ5 U1):Ht 130 σ U1 σ5:=
 Bt mO [st 4 (QS σ x1),st 2 (oW h1),st 3 (oW h2),st 3 (oW h3),st 4 (oW h4),sp 0 (AX .i64 c1),st 2 (oW h5),st 1 (oW h6),st 3 (oW h7),st 0 (zl σ5 U1)] (rz 2 U1)
theorem R62:Rn 84 a84:=fun _ _ _=>rfl
theorem VN(h1:Hb 82 [58] σ true σ1)(h2:Ht 130 σ1 U1 σ2):Ht 84 σ U1 σ2:=
 Bt R62 [st 2 (oW h1),st 2 (oW h2),st 0 (zl σ2 U1)] (rz 2 U1)
theorem AKQ(h1:Hb 82 [58] σ false σ1)(x1:Hk σ1 m1)(h2:Hn m1 0 [] .nils σ1 U1):Ht 84 σ U1 σ1:=
 Bt R62 [st 2 (oW h1),st 5 (QS σ1 x1),st 0 (oW h2),st 0 (zl σ1 U1)] (rz 2 U1)
theorem BxY:Rn 129 BwM:=fun _ _ _=>rfl
theorem AvH(x1:Hk σ m1)(h1:Hb 82 [118,97,114] σ true σ1)(h2:Hs 79 σ1 s1 σ2)(h3:Ht 84 σ2 U1 σ3)(h4:Hn m1 8 s1 (.slice false 5 [U1.pv]) σ3 U2):Ht 129 σ U2 σ3:=
 Bt BxY [st 4 (QS σ x1),st 3 (oW h1),st 3 (oW h2),st 2 (oW h3),sp 1 (BF U1),st 4 (QS σ3 (Bu U1)),st 0 (bz1 σ3 U1),st 0 (wn h4),st 0 (zl σ3 U2)] (rz 2 U2)
theorem AvG(x1:Hk σ m1)(h1:Hb 82 [118,97,114] σ false σ1)(h2:Hs 79 σ1 s1 σ2)(h3:Ht 84 σ2 U1 σ3)(h4:Hn m1 7 s1 (.slice false 5 [U1.pv]) σ3 U2):Ht 129 σ U2 σ3:=
 Bt BxY [st 4 (QS σ x1),st 3 (oW h1),st 2 (oW h2),st 2 (oW h3),sp 1 (BF U1),st 4 (QS σ3 (Bu U1)),st 0 (bz1 σ3 U1),st 0 (wn h4),st 0 (zl σ3 U2)] (rz 2 U2)
theorem R28:Rn 35 a35:=fun _ _ _=>rfl
theorem r28(x1:Hk σ m1)(h1:Hs 37 σ s1 σ1)(h2:Hs 79 σ1 s2 σ2)(h3:Ht 83 σ2 U1 σ3)(h4:Ht 84 σ3 U2 σ4)(h5:Ht 85 σ4 U3 σ5)(h6:Hn m1 5 s2 (.slice false 5 [U1.pv,U2.pv,U3.pv]) σ5 U4):Ht 35 σ U4 σ5:=
 Bt R28 [st 4 (QS σ x1),st 2 (oW h1),st 1 (oW h2),st 2 (oW h3),sp 1 (BF U1),st 1 (oW h4),sp 1 (BF U2),st 1 (oW h5),sp 1 (BF U3),st 3 (QS σ5 (Bu U1)),st 0 (QS σ5 (Bu U2)),st 0 (QS σ5 (Bu U3)),st 0 (bz3 σ5 U1 U2 U3),st 0 (wn h6),st 0 (zl σ5 U4)] (rz 2 U4)
theorem R83:Rn 90 a90:=fun _ _ _=>rfl
theorem AJY(x1:Hk σ m1)(h1:Hs 37 σ s1 σ1)(h2:Hx 1 σ1 U1 σ2)(h3:Ht 85 σ2 U2 σ3)(x2:Hk σ3 m2)(h4:Hn m2 0 [] .nils σ3 U3)(h5:Hb 82 [101,108,115,101] σ3 false σ4)(h6:Hn m1 14 [] (.slice false 5 [U1.pv,U2.pv,U3.pv]) σ4 U4):Ht 90 σ U4 σ4:=
 Bt R83 [st 4 (QS σ x1),st 2 (oW h1),st 1 (oW h2),sp 1 (BF U1),st 1 (oW h3),sp 1 (BF U2),st 4 (QS σ3 x2),st 0 (oW h4),st 1 (zl σ3 U3),st 1 (oW h5),st 3 (QS σ4 (Bu U1)),st 0 (QS σ4 (Bu U2)),sp 0 (Ep U3),st 0 (bz3 σ4 U1 U2 U3),st 0 (wn h6),st 0 (zl σ4 U4)] (rz 2 U4)
theorem AJX(x1:Hk σ m1)(h1:Hs 37 σ s1 σ1)(h2:Hx 1 σ1 U1 σ2)(h3:Ht 85 σ2 U2 σ3)(x2:Hk σ3 m2)(h4:Hn m2 0 [] .nils σ3 U3)(h5:Hb 82 [101,108,115,101] σ3 true σ4)(h6:Hb 33 [105,102] σ4 true σ4)(h7:Ht 90 σ4 U4 σ5)(h8:Hn m1 14 [] (.slice false 5 [U1.pv,U2.pv,U4.pv]) σ5 U5):Ht 90 σ U5 σ5:=
 Bt R83 [st 4 (QS σ x1),st 2 (oW h1),st 1 (oW h2),sp 1 (BF U1),st 1 (oW h3),sp 1 (BF U2),st 4 (QS σ3 x2),st 0 (oW h4),st 1 (zl σ3 U3),st 1 (oW h5),st 2 (oW h6),st 2 (oW h7),sp 0 (He U3 U4),st 2 (QS σ5 (Bu U1)),st 0 (QS σ5 (Bu U2)),sp 0 (Ep U4),st 0 (bz3 σ5 U1 U2 U4),st 0 (wn h8),st 0 (zl σ5 U5)] (rz 2 U5)
theorem AJW(x1:Hk σ m1)(h1:Hs 37 σ s1 σ1)(h2:Hx 1 σ1 U1 σ2)(h3:Ht 85 σ2 U2 σ3)(x2:Hk σ3 m2)(h4:Hn m2 0 [] .nils σ3 U3)(h5:Hb 82 [101,108,115,101] σ3 true σ4)(h6:Hb 33 [105,102] σ4 false σ4)(h7:Ht 85 σ4 U4 σ5)(h8:Hn m1 14 [] (.slice false 5 [U1.pv,U2.pv,U4.pv]) σ5 U5):Ht 90 σ U5 σ5:=
 Bt R83 [st 4 (QS σ x1),st 2 (oW h1),st 1 (oW h2),sp 1 (BF U1),st 1 (oW h3),sp 1 (BF U2),st 4 (QS σ3 x2),st 0 (oW h4),st 1 (zl σ3 U3),st 1 (oW h5),st 2 (oW h6),st 2 (oW h7),sp 0 (He U3 U4),st 2 (QS σ5 (Bu U1)),st 0 (QS σ5 (Bu U2)),sp 0 (Ep U4),st 0 (bz3 σ5 U1 U2 U4),st 0 (wn h8),st 0 (zl σ5 U5)] (rz 2 U5)
theorem R39:Rn 43 a43:=fun _ _ _=>rfl
theorem AVH(x1:Hk σ m1)(h1:Hb 82 [118,97,114] σ true σ1)(h2:Hs 79 σ1 s1 σ2)(h3:Ht 84 σ2 U1 σ3)(h4:Hb 80 [61] σ3 b1 σ4)(h5:Hx 1 σ4 U2 σ5)(h6:Hb 80 [59] σ5 b2 σ6)(h7:Hn m1 12 s1 (.slice false 5 [U1.pv,U2.pv]) σ6 U3):Ht 43 σ U3 σ6:=
 Bt R39 [st 4 (QS σ x1),st 2 (oW h1),st 3 (oW h2),st 2 (oW h3),sp 1 (BF U1),st 1 (oW h4),st 1 (oW h5),sp 1 (BF U2),st 1 (oW h6),st 3 (QS σ6 (Bu U1)),st 0 (QS σ6 (Bu U2)),st 0 (bz2 σ6 U1 U2),st 0 (wn h7),st 0 (zl σ6 U3)] (rz 2 U3)
theorem AVG(x1:Hk σ m1)(h1:Hb 82 [118,97,114] σ false σ1)(h2:Hb 33 [105,102] σ1 true σ1)(h3:Ht 90 σ1 U1 σ2):Ht 43 σ U1 σ2:=
 Bt R39 [st 4 (QS σ x1),st 2 (oW h1),st 3 (oW h2),st 3 (oW h3),st 0 (zl σ2 U1)] (rz 2 U1)
theorem AVF(x1:Hk σ m1)(h1:Hb 82 [118,97,114] σ false σ1)(h2:Hb 33 [105,102] σ1 false σ1)(h3:Hb 82 [119,104,105,108,101] σ1 true σ2)(h4:Hx 1 σ2 U1 σ3)(h5:Ht 85 σ3 U2 σ4)(h6:Hn m1 15 [] (.slice false 5 [U1.pv,U2.pv]) σ4 U3):Ht 43 σ U3 σ4:=
 Bt R39 [st 4 (QS σ x1),st 2 (oW h1),st 3 (oW h2),st 3 (oW h3),st 3 (oW h4),sp 1 (BF U1),st 1 (oW h5),sp 1 (BF U2),st 2 (QS σ4 (Bu U1)),st 0 (QS σ4 (Bu U2)),st 0 (bz2 σ4 U1 U2),st 0 (wn h6),st 0 (zl σ4 U3)] (rz 2 U3)
theorem AVE(x1:Hk σ m1)(h1:Hb 82 [118,97,114] σ false σ1)(h2:Hb 33 [105,102] σ1 false σ1)(h3:Hb 82 [119,104,105,108,101] σ1 false σ2)(h4:Hb 82 [102,111,114] σ2 true σ3)(h5:Hs 79 σ3 s1 σ4)(h6:Hb 80 [61] σ4 b1 σ5)(h7:Hx 1 σ5 U1 σ6)(h8:Hb 80 [116,111] σ6 b2 σ7)(h9:Hx 1 σ7 U2 σ8)(h10:Ht 85 σ8 U3 σ9)(h11:Hn m1 16 s1 (.slice false 5 [U1.pv,U2.pv,U3.pv]) σ9 U4):Ht 43 σ U4 σ9:=
 Bt R39 [st 4 (QS σ x1),st 2 (oW h1),st 3 (oW h2),st 3 (oW h3),st 3 (oW h4),st 3 (oW h5),st 2 (oW h6),st 1 (oW h7),sp 1 (BF U1),st 1 (oW h8),st 1 (oW h9),sp 1 (BF U2),st 1 (oW h10),sp 1 (BF U3),st 3 (QS σ9 (Bu U1)),st 0 (QS σ9 (Bu U2)),st 0 (QS σ9 (Bu U3)),st 0 (bz3 σ9 U1 U2 U3),st 0 (wn h11),st 0 (zl σ9 U4)] (rz 2 U4)
theorem AVD(x1:Hk σ m1)(h1:Hb 82 [118,97,114] σ false σ1)(h2:Hb 33 [105,102] σ1 false σ1)(h3:Hb 82 [119,104,105,108,101] σ1 false σ2)(h4:Hb 82 [102,111,114] σ2 false σ3)(h5:Hb 82 [114,101,116,117,114,110] σ3 true σ4)(x2:Hk σ4 m2)(h6:Hn m2 0 [] .nils σ4 U1)(h7:E 91 [r0] σ4 (.bool true) σ4)(h8:Hx 1 σ4 U2 σ5)(h9:Hb 80 [59] σ5 b1 σ6)(h10:Hn m1 17 [] (.slice false 5 [U2.pv]) σ6 U3):Ht 43 σ U3 σ6:=
 Bt R39 [st 4 (QS σ x1),st 2 (oW h1),st 3 (oW h2),st 3 (oW h3),st 3 (oW h4),st 3 (oW h5),st 6 (QS σ4 x2),st 0 (oW h6),st 1 (zl σ4 U1),st 1 (oW h7),st 10 (oW h8),sp 0 (He U1 U2),st 1 (oW h9),sp 2 (Ep U2),st 0 (bz1 σ6 U2),st 0 (wn h10),st 0 (zl σ6 U3)] (rz 2 U3)
theorem AVC(x1:Hk σ m1)(h1:Hb 82 [118,97,114] σ false σ1)(h2:Hb 33 [105,102] σ1 false σ1)(h3:Hb 82 [119,104,105,108,101] σ1 false σ2)(h4:Hb 82 [102,111,114] σ2 false σ3)(h5:Hb 82 [114,101,116,117,114,110] σ3 false σ4)(h6:Hb 82 [97,115,115,101,114,116] σ4 true σ5)(h7:Hx 1 σ5 U1 σ6)(h8:Hb 80 [59] σ6 b1 σ7)(h9:Hn m1 18 [] (.slice false 5 [U1.pv]) σ7 U2):Ht 43 σ U2 σ7:=
 Bt R39 [st 4 (QS σ x1),st 2 (oW h1),st 3 (oW h2),st 3 (oW h3),st 3 (oW h4),st 3 (oW h5),st 3 (oW h6),st 3 (oW h7),sp 1 (BF U1),st 1 (oW h8),st 2 (QS σ7 (Bu U1)),st 0 (bz1 σ7 U1),st 0 (wn h9),st 0 (zl σ7 U2)] (rz 2 U2)
theorem AVB(x1:Hk σ m1)(h1:Hb 82 [118,97,114] σ false σ1)(h2:Hb 33 [105,102] σ1 false σ1)(h3:Hb 82 [119,104,105,108,101] σ1 false σ2)(h4:Hb 82 [102,111,114] σ2 false σ3)(h5:Hb 82 [114,101,116,117,114,110] σ3 true σ4)(x2:Hk σ4 m2)(h6:Hn m2 0 [] .nils σ4 U1)(h7:E 91 [r0] σ4 (.bool false) σ4)(h8:Hb 33 [110,111,116] σ4 true σ4)(h9:Hx 1 σ4 U2 σ5)(h10:Hb 80 [59] σ5 b1 σ6)(h11:Hn m1 17 [] (.slice false 5 [U2.pv]) σ6 U3):Ht 43 σ U3 σ6:=
 Bt R39 [st 4 (QS σ x1),st 2 (oW h1),st 3 (oW h2),st 3 (oW h3),st 3 (oW h4),st 3 (oW h5),st 6 (QS σ4 x2),st 0 (oW h6),st 1 (zl σ4 U1),st 1 (oW h7),sg 2 (oW h8),st 7 (oW h9),sp 0 (He U1 U2),st 1 (oW h10),sp 2 (Ep U2),st 0 (bz1 σ6 U2),st 0 (wn h11),st 0 (zl σ6 U3)] (rz 2 U3)
theorem AVA(x1:Hk σ m1)(h1:Hb 82 [118,97,114] σ false σ1)(h2:Hb 33 [105,102] σ1 false σ1)(h3:Hb 82 [119,104,105,108,101] σ1 false σ2)(h4:Hb 82 [102,111,114] σ2 false σ3)(h5:Hb 82 [114,101,116,117,114,110] σ3 false σ4)(h6:Hb 82 [97,115,115,101,114,116] σ4 false σ5)(h7:Hc σ5 m2)(c1:(m2:Int)≠0)(h8:Ht 95 σ5 U1 σ6):Ht 43 σ U1 σ6:=
 Bt R39 [st 4 (QS σ x1),st 2 (oW h1),st 3 (oW h2),st 3 (oW h3),st 3 (oW h4),st 3 (oW h5),st 3 (oW h6),st 3 (oW h7),sp 0 (AX .i64 c1),st 8 (oW h7),sp 0 (AX .i64 c1),st 3 (oW h8),st 0 (zl σ6 U1)] (rz 2 U1)
theorem AV9(x1:Hk σ m1)(h1:Hb 82 [118,97,114] σ false σ1)(h2:Hb 33 [105,102] σ1 false σ1)(h3:Hb 82 [119,104,105,108,101] σ1 false σ2)(h4:Hb 82 [102,111,114] σ2 false σ3)(h5:Hb 82 [114,101,116,117,114,110] σ3 true σ4)(x2:Hk σ4 m2)(h6:Hn m2 0 [] .nils σ4 U1)(h7:E 91 [r0] σ4 (.bool false) σ4)(h8:Hb 33 [110,111,116] σ4 false σ4)(h9:Hb 33 [45] σ4 true σ4)(h10:Hx 1 σ4 U2 σ5)(h11:Hb 80 [59] σ5 b1 σ6)(h12:Hn m1 17 [] (.slice false 5 [U2.pv]) σ6 U3):Ht 43 σ U3 σ6:=
 Bt R39 [st 4 (QS σ x1),st 2 (oW h1),st 3 (oW h2),st 3 (oW h3),st 3 (oW h4),st 3 (oW h5),st 6 (QS σ4 x2),st 0 (oW h6),st 1 (zl σ4 U1),st 1 (oW h7),sg 2 (oW h8),sg 3 (oW h9),st 3 (oW h10),sp 0 (He U1 U2),st 1 (oW h11),sp 2 (Ep U2),st 0 (bz1 σ6 U2),st 0 (wn h12),st 0 (zl σ6 U3)] (rz 2 U3)
theorem Aj0(x1:Hk σ m1)(h1:Hb 82 [118,97,114] σ false σ1)(h2:Hb 33 [105,102] σ1 false σ1)(h3:Hb 82 [119,104,105,108,101] σ1 false σ2)(h4:Hb 82 [102,111,114] σ2 false σ3)(h5:Hb 82 [114,101,116,117,114,110] σ3 true σ4)(x2:Hk σ4 m2)(h6:Hn m2 0 [] .nils σ4 U1)(h7:E 91 [r0] σ4 (.bool false) σ4)(h8:Hb 33 [110,111,116] σ4 false σ4)(h9:Hb 33 [45] σ4 false σ4)(h10:Hb 80 [59] σ4 b1 σ5)(h11:Hn m1 17 [] (.slice false 5 [U1.pv]) σ5 U2):Ht 43 σ U2 σ5:=
 Bt R39 [st 4 (QS σ x1),st 2 (oW h1),st 3 (oW h2),st 3 (oW h3),st 3 (oW h4),st 3 (oW h5),st 6 (QS σ4 x2),st 0 (oW h6),st 1 (zl σ4 U1),st 1 (oW h7),sg 2 (oW h8),sg 3 (oW h9),st 3 (oW h10),sp 2 (Ep U1),st 0 (bz1 σ5 U1),st 0 (wn h11),st 0 (zl σ5 U2)] (rz 2 U2)
theorem AzZ(x1:Hk σ m1)(h1:Hb 82 [118,97,114] σ false σ1)(h2:Hb 33 [105,102] σ1 false σ1)(h3:Hb 82 [119,104,105,108,101] σ1 false σ2)(h4:Hb 82 [102,111,114] σ2 false σ3)(h5:Hb 82 [114,101,116,117,114,110] σ3 false σ4)(h6:Hb 82 [97,115,115,101,114,116] σ4 false σ5)(h7:Hc σ5 m2)(c1:(m2:Int)=0)(h8:Hs 92 σ5 s1 σ5)(c2:s1=[40])(h9:Hs 37 σ5 s2 σ6)(h10:E 93 [r0] σ6 (.slice false 5 (Tr.pvs ts1)) σ7)(h11:Hb 80 [59] σ7 b1 σ8)(h12:Hn m1 19 s2 (.slice false 5 (Tr.pvs ts1)) σ8 U1):Ht 43 σ U1 σ8:=
 Bt R39 [st 4 (QS σ x1),st 2 (oW h1),st 3 (oW h2),st 3 (oW h3),st 3 (oW h4),st 3 (oW h5),st 3 (oW h6),st 3 (oW h7),sp 0 (BJ .i64 c1),sg 2 (oW h8),sq 0 (Hr c2),st 4 (oW h9),st 2 (oW h10),st 2 (oW h11),st 4 (oW h12),st 0 (zl σ8 U1)] (rz 2 U1)
theorem AzY(x1:Hk σ m1)(h1:Hb 82 [118,97,114] σ false σ1)(h2:Hb 33 [105,102] σ1 false σ1)(h3:Hb 82 [119,104,105,108,101] σ1 false σ2)(h4:Hb 82 [102,111,114] σ2 false σ3)(h5:Hb 82 [114,101,116,117,114,110] σ3 false σ4)(h6:Hb 82 [97,115,115,101,114,116] σ4 false σ5)(h7:Hc σ5 m2)(c1:(m2:Int)=0)(h8:Hs 92 σ5 s1 σ5)(c2:s1≠[40])(h9:Ht 94 σ5 U1 σ6)(h10:Hb 80 [61] σ6 b1 σ7)(h11:Hx 1 σ7 U2 σ8)(h12:Hb 80 [59] σ8 b2 σ9)(h13:Hn m1 13 [] (.slice false 5 [U1.pv,U2.pv]) σ9 U3):Ht 43 σ U3 σ9:=
 Bt R39 [st 4 (QS σ x1),st 2 (oW h1),st 3 (oW h2),st 3 (oW h3),st 3 (oW h4),st 3 (oW h5),st 3 (oW h6),st 3 (oW h7),sp 0 (BJ .i64 c1),sg 2 (oW h8),sq 0 (Ip c2),st 4 (oW h7),sp 0 (BJ .i64 c1),st 3 (oW h9),sp 1 (BF U1),st 1 (oW h10),st 1 (oW h11),sp 1 (BF U2),st 1 (oW h12),st 2 (QS σ9 (Bu U1)),st 0 (QS σ9 (Bu U2)),st 0 (bz2 σ9 U1 U2),st 0 (wn h13),st 0 (zl σ9 U3)] (rz 2 U3)
theorem R36:Rn 41 a41:=fun _ _ _=>rfl
theorem xc(x1:Hk σ m1)(h1:Hx 2 σ U1 σ1)(L1:LL a41 0 [(0,r0),(1,I 1),(4,Z1),(5,N m1),(8,U1.pv)] σ1 (.exit 1) [(0,r0),(1,I 1),(4,Z1),(5,N m1),(8,U2.pv)] σ2):Hx 1 σ U2 σ2:=
 Bt R36 [st 4 (QS σ x1),st 11 (oW h1),st 1 (zl σ1 U1),sl 0 [0,1,4,5,8] L1,sp 0 (Ep U2),st 0 (zl σ2 U2)] (rz 4 U2)
theorem SG(h1:E 89 [r0,I 1] σ2 (.bool true) σ2)(h2:Hs 37 σ2 s1 σ3)(h3:Hx 2 σ3 U2 σ4)(h4:Hn m1 29 s1 (.slice false 5 [U1.pv,U2.pv]) σ4 U3)(hl:LL a41 0 [(0,r0),(1,I 1),(4,Z1),(5,N m1),(8,U3.pv)] σ4 e ff' σ'):LL a41 0 [(0,r0),(1,I 1),(4,Z1),(5,N m1),(8,U1.pv)] σ2 e ff' σ':=
 BM [0,1,4,5,8] [st 2 (oW h1),st 2 (oW h2),st 4 (oW h3),sp 1 (BF U2),sp 3 (Ep U1),st 0 (QS σ4 (Bu U2)),st 0 (bz2 σ4 U1 U2),st 0 (wn h4),sp 0 (He U1 U3)] hl
theorem UT(h1:E 89 [r0,I 1] σ2 (.bool false) σ2):LL a41 0 [(0,r0),(1,I 1),(4,Z1),(5,N m1),(8,U1.pv)] σ2 (.exit 1) [(0,r0),(1,I 1),(4,Z1),(5,N m1),(8,U1.pv)] σ2:=
 BA [0,1,4,5,8] [st 2 (oW h1)]
theorem w9(x1:Hk σ m1)(h1:Hx 3 σ U1 σ1)(L1:LL a41 0 [(0,r0),(1,I 2),(4,Z1),(5,N m1),(8,U1.pv)] σ1 (.exit 1) [(0,r0),(1,I 2),(4,Z1),(5,N m1),(8,U2.pv)] σ2):Hx 2 σ U2 σ2:=
 Bt R36 [st 4 (QS σ x1),st 11 (oW h1),st 1 (zl σ1 U1),sl 0 [0,1,4,5,8] L1,sp 0 (Ep U2),st 0 (zl σ2 U2)] (rz 4 U2)
theorem SF(h1:E 89 [r0,I 2] σ2 (.bool true) σ2)(h2:Hs 37 σ2 s1 σ3)(h3:Hx 3 σ3 U2 σ4)(h4:Hn m1 29 s1 (.slice false 5 [U1.pv,U2.pv]) σ4 U3)(hl:LL a41 0 [(0,r0),(1,I 2),(4,Z1),(5,N m1),(8,U3.pv)] σ4 e ff' σ'):LL a41 0 [(0,r0),(1,I 2),(4,Z1),(5,N m1),(8,U1.pv)] σ2 e ff' σ':=
 BM [0,1,4,5,8] [st 2 (oW h1),st 2 (oW h2),st 4 (oW h3),sp 1 (BF U2),sp 3 (Ep U1),st 0 (QS σ4 (Bu U2)),st 0 (bz2 σ4 U1 U2),st 0 (wn h4),sp 0 (He U1 U3)] hl
theorem UR(h1:E 89 [r0,I 2] σ2 (.bool false) σ2):LL a41 0 [(0,r0),(1,I 2),(4,Z1),(5,N m1),(8,U1.pv)] σ2 (.exit 1) [(0,r0),(1,I 2),(4,Z1),(5,N m1),(8,U1.pv)] σ2:=
 BA [0,1,4,5,8] [st 2 (oW h1)]
theorem wZ(x1:Hk σ m1)(h1:Hb 82 [110,111,116] σ true σ1)(h2:Hx 3 σ1 U1 σ2)(h3:Hn m1 28 [110,111,116] (.slice false 5 [U1.pv]) σ2 U2):Hx 3 σ U2 σ2:=
 Bt R36 [st 4 (QS σ x1),st 6 (oW h1),st 2 (oW h2),sp 1 (BF U1),st 2 (QS σ2 (Bu U1)),st 0 (bz1 σ2 U1),st 0 (wn h3),st 0 (zl σ2 U2)] (rz 4 U2)
theorem wY(x1:Hk σ m1)(h1:Hb 82 [110,111,116] σ false σ1)(h2:Hx 4 σ1 U1 σ2):Hx 3 σ U1 σ2:=
 Bt R36 [st 4 (QS σ x1),st 6 (oW h1),st 2 (oW h2),st 0 (zl σ2 U1)] (rz 4 U1)
theorem wX(x1:Hk σ m1)(h1:Hx 5 σ U1 σ1)(L1:LL a41 0 [(0,r0),(1,I 4),(4,Z1),(5,N m1),(8,U1.pv)] σ1 (.exit 1) [(0,r0),(1,I 4),(4,Z1),(5,N m1),(8,U2.pv)] σ2):Hx 4 σ U2 σ2:=
 Bt R36 [st 4 (QS σ x1),st 11 (oW h1),st 1 (zl σ1 U1),sl 0 [0,1,4,5,8] L1,sp 0 (Ep U2),st 0 (zl σ2 U2)] (rz 4 U2)
theorem wW(x1:Hk σ m1)(h1:Hx 5 σ U1 σ1)(L1:LL a41 0 [(0,r0),(1,I 4),(4,Z1),(5,N m1),(8,U1.pv)] σ1 .ret [(4,U2.pv)] σ2):Hx 4 σ U2 σ2:=
 Bt R36 [st 4 (QS σ x1),st 11 (oW h1),st 1 (zl σ1 U1),sl 0 [0,1,4,5,8] L1] (rz 4 U2)
theorem UQ(h1:E 89 [r0,I 4] σ2 (.bool true) σ2)(h2:Hs 37 σ2 s1 σ3)(h3:Hx 5 σ3 U2 σ4)(h4:Hn m1 29 s1 (.slice false 5 [U1.pv,U2.pv]) σ4 U3):LL a41 0 [(0,r0),(1,I 4),(4,Z1),(5,N m1),(8,U1.pv)] σ2 .ret [(4,U3.pv)] σ4:=
 BA [4] [st 2 (oW h1),st 2 (oW h2),st 4 (oW h3),sp 1 (BF U2),sp 3 (Ep U1),st 0 (QS σ4 (Bu U2)),st 0 (bz2 σ4 U1 U2),st 0 (wn h4),sp 0 (He U1 U3),sp 3 (Ep U3),st 0 (zl σ4 U3)]
theorem UO(h1:E 89 [r0,I 4] σ2 (.bool false) σ2):LL a41 0 [(0,r0),(1,I 4),(4,Z1),(5,N m1),(8,U1.pv)] σ2 (.exit 1) [(0,r0),(1,I 4),(4,Z1),(5,N m1),(8,U1.pv)] σ2:=
 BA [0,1,4,5,8] [st 2 (oW h1)]
theorem wS(x1:Hk σ m1)(h1:Hx 6 σ U1 σ1)(L1:LL a41 0 [(0,r0),(1,I 5),(4,Z1),(5,N m1),(8,U1.pv)] σ1 (.exit 1) [(0,r0),(1,I 5),(4,Z1),(5,N m1),(8,U2.pv)] σ2):Hx 5 σ U2 σ2:=
 Bt R36 [st 4 (QS σ x1),st 11 (oW h1),st 1 (zl σ1 U1),sl 0 [0,1,4,5,8] L1,sp 0 (Ep U2),st 0 (zl σ2 U2)] (rz 4 U2)
theorem SE(h1:E 89 [r0,I 5] σ2 (.bool true) σ2)(h2:Hs 37 σ2 s1 σ3)(h3:Hx 6 σ3 U2 σ4)(h4:Hn m1 29 s1 (.slice false 5 [U1.pv,U2.pv]) σ4 U3)(hl:LL a41 0 [(0,r0),(1,I 5),(4,Z1),(5,N m1),(8,U3.pv)] σ4 e ff' σ'):LL a41 0 [(0,r0),(1,I 5),(4,Z1),(5,N m1),(8,U1.pv)] σ2 e ff' σ':=
 BM [0,1,4,5,8] [st 2 (oW h1),st 2 (oW h2),st 4 (oW h3),sp 1 (BF U2),sp 3 (Ep U1),st 0 (QS σ4 (Bu U2)),st 0 (bz2 σ4 U1 U2),st 0 (wn h4),sp 0 (He U1 U3)] hl
theorem UN(h1:E 89 [r0,I 5] σ2 (.bool false) σ2):LL a41 0 [(0,r0),(1,I 5),(4,Z1),(5,N m1),(8,U1.pv)] σ2 (.exit 1) [(0,r0),(1,I 5),(4,Z1),(5,N m1),(8,U1.pv)] σ2:=
 BA [0,1,4,5,8] [st 2 (oW h1)]
theorem wR(x1:Hk σ m1)(h1:Hx 7 σ U1 σ1)(L1:LL a41 0 [(0,r0),(1,I 6),(4,Z1),(5,N m1),(8,U1.pv)] σ1 (.exit 1) [(0,r0),(1,I 6),(4,Z1),(5,N m1),(8,U2.pv)] σ2):Hx 6 σ U2 σ2:=
 Bt R36 [st 4 (QS σ x1),st 11 (oW h1),st 1 (zl σ1 U1),sl 0 [0,1,4,5,8] L1,sp 0 (Ep U2),st 0 (zl σ2 U2)] (rz 4 U2)
theorem SC(h1:E 89 [r0,I 6] σ2 (.bool true) σ2)(h2:Hs 37 σ2 s1 σ3)(h3:Hx 7 σ3 U2 σ4)(h4:Hn m1 29 s1 (.slice false 5 [U1.pv,U2.pv]) σ4 U3)(hl:LL a41 0 [(0,r0),(1,I 6),(4,Z1),(5,N m1),(8,U3.pv)] σ4 e ff' σ'):LL a41 0 [(0,r0),(1,I 6),(4,Z1),(5,N m1),(8,U1.pv)] σ2 e ff' σ':=
 BM [0,1,4,5,8] [st 2 (oW h1),st 2 (oW h2),st 4 (oW h3),sp 1 (BF U2),sp 3 (Ep U1),st 0 (QS σ4 (Bu U2)),st 0 (bz2 σ4 U1 U2),st 0 (wn h4),sp 0 (He U1 U3)] hl
theorem UM(h1:E 89 [r0,I 6] σ2 (.bool false) σ2):LL a41 0 [(0,r0),(1,I 6),(4,Z1),(5,N m1),(8,U1.pv)] σ2 (.exit 1) [(0,r0),(1,I 6),(4,Z1),(5,N m1),(8,U1.pv)] σ2:=
 BA [0,1,4,5,8] [st 2 (oW h1)]
theorem wQ(x1:Hk σ m1)(h1:Hb 82 [45] σ true σ1)(h2:Hx 7 σ1 U1 σ2)(h3:Hn m1 28 [45] (.slice false 5 [U1.pv]) σ2 U2):Hx 7 σ U2 σ2:=
 Bt R36 [st 4 (QS σ x1),st 9 (oW h1),st 2 (oW h2),sp 1 (BF U1),st 2 (QS σ2 (Bu U1)),st 0 (bz1 σ2 U1),st 0 (wn h3),st 0 (zl σ2 U2)] (rz 4 U2)
theorem wP(x1:Hk σ m1)(h1:Hb 82 [45] σ false σ1)(h2:Ht 88 σ1 U1 σ2):Hx 7 σ U1 σ2:=
 Bt R36 [st 4 (QS σ x1),st 9 (oW h1),st 2 (oW h2),st 0 (zl σ2 U1)] (rz 4 U1)
theorem R71:Rn 88 a88:=fun _ _ _=>rfl
theorem AKJ(x1:Hk σ m1)(h1:Hc σ m2)(c1:(m2:Int)=2)(h2:Hs 37 σ s1 σ1)(h3:E 133 [.str s1] [] (.str s2) [])(h4:Hn m1 24 s2 .nils σ1 U1):Ht 88 σ U1 σ1:=
 Bt R71 [st 4 (QS σ x1),st 2 (oW h1),sp 0 (BJ .i64 c1),st 5 (oW h2),st 0 (oCS σ1 h3),st 0 (oW h4),st 0 (zl σ1 U1)] (rz 2 U1)
theorem AKI(x1:Hk σ m1)(h1:Hc σ m2)(c1:(m2:Int)≠2)(h2:Hb 33 [116,114,117,101] σ true σ)(h3:Hs 37 σ s1 σ1)(h4:Hn m1 25 s1 .nils σ1 U1):Ht 88 σ U1 σ1:=
 Bt R71 [st 4 (QS σ x1),st 2 (oW h1),sp 0 (AX .i64 c1),st 3 (oW h2),st 9 (oW h3),st 0 (oW h4),st 0 (zl σ1 U1)] (rz 2 U1)
theorem AKH(x1:Hk σ m1)(h1:Hc σ m2)(c1:(m2:Int)≠2)(h2:Hb 33 [116,114,117,101] σ false σ)(h3:Hb 33 [102,97,108,115,101] σ true σ)(h4:Hs 37 σ s1 σ1)(h5:Hn m1 25 s1 .nils σ1 U1):Ht 88 σ U1 σ1:=
 Bt R71 [st 4 (QS σ x1),st 2 (oW h1),sp 0 (AX .i64 c1),st 3 (oW h2),sg 2 (oW h3),st 6 (oW h4),st 0 (oW h5),st 0 (zl σ1 U1)] (rz 2 U1)
theorem AKG(x1:Hk σ m1)(h1:Hc σ m2)(c1:(m2:Int)≠2)(h2:Hb 33 [116,114,117,101] σ false σ)(h3:Hb 33 [102,97,108,115,101] σ false σ)(c2:(m2:Int)=0)(h4:Hs 92 σ s1 σ)(c3:s1=[40])(h5:Hs 37 σ s2 σ1)(h6:E 93 [r0] σ1 (.slice false 5 (Tr.pvs ts1)) σ2)(h7:Hn m1 27 s2 (.slice false 5 (Tr.pvs ts1)) σ2 U1):Ht 88 σ U1 σ2:=
 Bt R71 [st 4 (QS σ x1),st 2 (oW h1),sp 0 (AX .i64 c1),st 3 (oW h2),sg 2 (oW h3),st 4 (oW h1),sp 0 (BJ .i64 c2),sg 2 (oW h4),sq 0 (Hr c3),st 4 (oW h5),st 2 (oW h6),st 5 (oW h7),st 0 (zl σ2 U1)] (rz 2 U1)
theorem AKF(x1:Hk σ m1)(h1:Hc σ m2)(c1:(m2:Int)≠2)(h2:Hb 33 [116,114,117,101] σ false σ)(h3:Hb 33 [102,97,108,115,101] σ false σ)(c2:(m2:Int)=0)(h4:Hs 92 σ s1 σ)(c3:s1≠[40])(h5:Ht 94 σ U1 σ1):Ht 88 σ U1 σ1:=
 Bt R71 [st 4 (QS σ x1),st 2 (oW h1),sp 0 (AX .i64 c1),st 3 (oW h2),sg 2 (oW h3),st 4 (oW h1),sp 0 (BJ .i64 c2),sg 2 (oW h4),sq 0 (Ip c3),st 4 (oW h1),sp 0 (BJ .i64 c2),st 3 (oW h5),st 0 (zl σ1 U1)] (rz 2 U1)
theorem AKE(x1:Hk σ m1)(h1:Hc σ m2)(c1:(m2:Int)≠2)(h2:Hb 33 [116,114,117,101] σ false σ)(h3:Hb 33 [102,97,108,115,101] σ false σ)(c2:(m2:Int)≠0)(h4:Hb 82 [91] σ true σ1)(h5:Hx 1 σ1 U1 σ2)(L1:LL a88 0 [(0,r0),(2,Z1),(3,N m1),(6,slice true 5 [U1.pv])] σ2 (.exit 1) [(0,r0),(2,Z1),(3,N m1),(6,slice true 5 (Tr.pvs ts1))] σ3)(h6:Hb 80 [93] σ3 b1 σ4)(h7:Hn m1 26 [] (.slice false 5 (Tr.pvs ts1)) σ4 U2):Ht 88 σ U2 σ4:=
 Bt R71 [st 4 (QS σ x1),st 2 (oW h1),sp 0 (AX .i64 c1),st 3 (oW h2),sg 2 (oW h3),st 4 (oW h1),sp 0 (AX .i64 c2),st 8 (oW h1),sp 0 (AX .i64 c2),st 3 (oW h4),st 3 (oW h5),st 0 (bz1 σ2 U1),sl 1 [0,2,3,6] L1,st 1 (oW h6),st 3 (oW h7),st 0 (zl σ4 U2)] (rz 2 U2)
theorem AKD(x1:Hk σ m1)(h1:Hc σ m2)(c1:(m2:Int)≠2)(h2:Hb 33 [116,114,117,101] σ false σ)(h3:Hb 33 [102,97,108,115,101] σ false σ)(c2:(m2:Int)≠0)(h4:Hb 82 [91] σ false σ1)(h5:Hb 82 [108,101,110] σ1 true σ2)(h6:Hb 80 [40] σ2 b1 σ3)(h7:Ht 134 σ3 U1 σ4)(h8:Hb 80 [41] σ4 b2 σ5)(h9:Hn m1 23 [] (.slice false 5 [U1.pv]) σ5 U2):Ht 88 σ U2 σ5:=
 Bt R71 [st 4 (QS σ x1),st 2 (oW h1),sp 0 (AX .i64 c1),st 3 (oW h2),sg 2 (oW h3),st 4 (oW h1),sp 0 (AX .i64 c2),st 8 (oW h1),sp 0 (AX .i64 c2),st 3 (oW h4),st 3 (oW h5),st 3 (oW h6),st 1 (oW h7),sp 1 (BF U1),st 1 (oW h8),st 2 (QS σ5 (Bu U1)),st 0 (bz1 σ5 U1),st 0 (wn h9),st 0 (zl σ5 U2)] (rz 2 U2)
theorem AKC(x1:Hk σ m1)(h1:Hc σ m2)(c1:(m2:Int)≠2)(h2:Hb 33 [116,114,117,101] σ false σ)(h3:Hb 33 [102,97,108,115,101] σ false σ)(c2:(m2:Int)≠0)(h4:Hb 82 [91] σ false σ1)(h5:Hb 82 [108,101,110] σ1 false σ2)(h6:Hb 82 [40] σ2 true σ3)(h7:Hx 1 σ3 U1 σ4)(h8:Hb 80 [41] σ4 b1 σ5):Ht 88 σ U1 σ5:=
 Bt R71 [st 4 (QS σ x1),st 2 (oW h1),sp 0 (AX .i64 c1),st 3 (oW h2),sg 2 (oW h3),st 4 (oW h1),sp 0 (AX .i64 c2),st 8 (oW h1),sp 0 (AX .i64 c2),st 3 (oW h4),st 3 (oW h5),st 3 (oW h6),st 3 (oW h7),sp 1 (BF U1),st 1 (oW h8),st 0 (QS σ5 (Bu U1)),st 0 (zl σ5 U1)] (rz 2 U1)
theorem AKB(x1:Hk σ m1)(h1:Hc σ m2)(c1:(m2:Int)≠2)(h2:Hb 33 [116,114,117,101] σ false σ)(h3:Hb 33 [102,97,108,115,101] σ false σ)(c2:(m2:Int)≠0)(h4:Hb 82 [91] σ false σ1)(h5:Hb 82 [108,101,110] σ1 false σ2)(h6:Hb 82 [40] σ2 false σ3)(h7:E 36 [r0,I 5,.str []] σ3 (.tuple []) σ4)(h8:Hn m1 1 [] .nils σ4 U1):Ht 88 σ U1 σ4:=
 Bt R71 [st 4 (QS σ x1),st 2 (oW h1),sp 0 (AX .i64 c1),st 3 (oW h2),sg 2 (oW h3),st 4 (oW h1),sp 0 (AX .i64 c2),st 8 (oW h1),sp 0 (AX .i64 c2),st 3 (oW h4),st 3 (oW h5),st 3 (oW h6),st 3 (oW h7),st 2 (oW h8),st 0 (zl σ4 U1)] (rz 2 U1)
theorem Xj(h1:Hb 82 [44] σ1 true σ3)(h2:Hx 1 σ3 U1 σ4)(l1:ts1.length+1≤Bn)(hl:LL a88 0 [(0,r0),(2,Z1),(3,N m1),(6,slice true 5 (Tr.pvs (ts1++[U1])))] σ4 e ff' σ'):LL a88 0 [(0,r0),(2,Z1),(3,N m1),(6,slice true 5 (Tr.pvs ts1))] σ1 e ff' σ':=
 BM [0,2,3,6] [st 1 (oW h1),st 3 (oW h2),st 0 (bz1 σ4 U1),sp 0 (JN true U1 l1)] hl
theorem ae(h1:Hb 82 [44] σ1 false σ3):LL a88 0 [(0,r0),(2,Z1),(3,N m1),(6,slice true 5 (Tr.pvs ts1))] σ1 (.exit 1) [(0,r0),(2,Z1),(3,N m1),(6,slice true 5 (Tr.pvs ts1))] σ3:=
 BA [0,2,3,6] [st 1 (oW h1)]
theorem R86:Rn 93 a93:=fun _ _ _=>rfl
theorem AJN(h1:Hs 37 σ s1 σ1)(h2:Hb 33 [41] σ1 true σ1)(h3:Hb 80 [41] σ1 b1 σ2):E 93 [r0] σ (.slice false 5 []) σ2:=
 rule R86 [st 4 (oW h1),st 1 (oW h2),st 3 (oW h3)]
theorem AJM(h1:Hs 37 σ s1 σ1)(h2:Hb 33 [41] σ1 false σ1)(h3:Hx 1 σ1 U1 σ2)(L1:LL a93 0 [(0,r0),(3,slice true 5 [U1.pv])] σ2 (.exit 0) [(0,r0),(3,slice true 5 (Tr.pvs ts1))] σ3)(h4:Hb 80 [41] σ3 b1 σ4):E 93 [r0] σ (.slice false 5 (Tr.pvs ts1)) σ4:=
 rule R86 [st 4 (oW h1),st 1 (oW h2),st 4 (oW h3),st 0 (bz1 σ2 U1),st 0 (FV (NA (by simp[Bn]) (by simp) (by simp)):Bh pur run (.p (.app 5)) [.slice true 5 [],.slice true 5 [U1.pv]] σ2 [some (.slice true 5 [U1.pv]),some (.slice false 5 [])] σ2),sl 1 [0,3] L1,st 1 (oW h4)]
theorem Xh(h1:Hb 82 [44] σ1 true σ3)(h2:Hx 1 σ3 U1 σ4)(l1:ts1.length+1≤Bn)(hl:LL a93 0 [(0,r0),(3,slice true 5 (Tr.pvs (ts1++[U1])))] σ4 e ff' σ'):LL a93 0 [(0,r0),(3,slice true 5 (Tr.pvs ts1))] σ1 e ff' σ':=
 BM [0,3] [st 1 (oW h1),st 3 (oW h2),st 0 (bz1 σ4 U1),sp 0 (JN true U1 l1)] hl
theorem Z8(h1:Hb 82 [44] σ1 false σ3):LL a93 0 [(0,r0),(3,slice true 5 (Tr.pvs ts1))] σ1 (.exit 0) [(0,r0),(3,slice true 5 (Tr.pvs ts1))] σ3:=
 BA [0,3] [st 1 (oW h1)]
theorem R27:Rn 34 a34:=fun _ _ _=>rfl
theorem r27(x1:Hk σ m1)(h1:Hs 37 σ s1 σ1)(h2:Hs 79 σ1 s2 σ2)(h3:Hb 80 [123] σ2 b1 σ3)(h4:Ht 81 σ3 U1 σ4)(L1:LL a34 0 [(0,r0),(2,Z1),(3,N m1),(4,str s2),(5,slice true 5 [U1.pv])] σ4 (.exit 0) [(0,r0),(2,Z1),(3,N m1),(4,str s2),(5,slice true 5 (Tr.pvs ts1))] σ5)(h5:Hb 80 [125] σ5 b2 σ6)(h6:Hn m1 3 s2 (.slice false 5 (Tr.pvs ts1)) σ6 U2):Ht 34 σ U2 σ6:=
 Bt R27 [st 4 (QS σ x1),st 2 (oW h1),st 1 (oW h2),st 2 (oW h3),st 1 (oW h4),st 0 (bz1 σ4 U1),sl 1 [0,2,3,4,5] L1,st 1 (oW h5),st 4 (oW h6),st 0 (zl σ6 U2)] (rz 2 U2)
theorem XR(h1:Hb 82 [44] σ1 true σ2)(h2:Ht 81 σ2 U1 σ3)(l1:ts1.length+1≤Bn)(hl:LL a34 0 [(0,r0),(2,Z1),(3,N m1),(4,str s2),(5,slice true 5 (Tr.pvs (ts1++[U1])))] σ3 e ff' σ'):LL a34 0 [(0,r0),(2,Z1),(3,N m1),(4,str s2),(5,slice true 5 (Tr.pvs ts1))] σ1 e ff' σ':=
 BM [0,2,3,4,5] [st 1 (oW h1),st 3 (oW h2),st 0 (bz1 σ3 U1),sp 0 (JN true U1 l1)] hl
theorem aV(h1:Hb 82 [44] σ1 false σ2):LL a34 0 [(0,r0),(2,Z1),(3,N m1),(4,str s2),(5,slice true 5 (Tr.pvs ts1))] σ1 (.exit 0) [(0,r0),(2,Z1),(3,N m1),(4,str s2),(5,slice true 5 (Tr.pvs ts1))] σ2:=
 BA [0,2,3,4,5] [st 1 (oW h1)]
theorem R61:Rn 83 a83:=fun _ _ _=>rfl
theorem AKS(x1:Hk σ m1)(h1:Hb 80 [40] σ b1 σ1)(h2:Hb 33 [41] σ1 true σ1)(h3:Hb 80 [41] σ1 b2 σ2)(h4:Hn m1 6 [] (.slice false 5 []) σ2 U1):Ht 83 σ U1 σ2:=
 Bt R61 [st 4 (QS σ x1),st 4 (oW h1),st 1 (oW h2),st 3 (oW h3),st 3 (oW h4),st 0 (zl σ2 U1)] (rz 2 U1)
theorem AKR(x1:Hk σ m1)(h1:Hb 80 [40] σ b1 σ1)(h2:Hb 33 [41] σ1 false σ1)(h3:Ht 129 σ1 U1 σ2)(L1:LL a83 0 [(0,r0),(2,Z1),(3,N m1),(4,slice true 5 [U1.pv])] σ2 (.exit 0) [(0,r0),(2,Z1),(3,N m1),(4,slice true 5 (Tr.pvs ts1))] σ3)(h4:Hb 80 [41] σ3 b2 σ4)(h5:Hn m1 6 [] (.slice false 5 (Tr.pvs ts1)) σ4 U2):Ht 83 σ U2 σ4:=
 Bt R61 [st 4 (QS σ x1),st 4 (oW h1),st 1 (oW h2),st 4 (oW h3),st 0 (bz1 σ2 U1),st 0 (FV (NA (by simp[Bn]) (by simp) (by simp)):Bh pur run (.p (.app 5)) [.slice true 5 [],.slice true 5 [U1.pv]] σ2 [some (.slice true 5 [U1.pv]),some (.slice false 5 [])] σ2),sl 1 [0,2,3,4] L1,st 1 (oW h4),st 3 (oW h5),st 0 (zl σ4 U2)] (rz 2 U2)
theorem Xm(h1:Hb 82 [44] σ1 true σ3)(h2:Ht 129 σ3 U1 σ4)(l1:ts1.length+1≤Bn)(hl:LL a83 0 [(0,r0),(2,Z1),(3,N m1),(4,slice true 5 (Tr.pvs (ts1++[U1])))] σ4 e ff' σ'):LL a83 0 [(0,r0),(2,Z1),(3,N m1),(4,slice true 5 (Tr.pvs ts1))] σ1 e ff' σ':=
 BM [0,2,3,4] [st 1 (oW h1),st 3 (oW h2),st 0 (bz1 σ4 U1),sp 0 (JN true U1 l1)] hl
theorem ak(h1:Hb 82 [44] σ1 false σ3):LL a83 0 [(0,r0),(2,Z1),(3,N m1),(4,slice true 5 (Tr.pvs ts1))] σ1 (.exit 0) [(0,r0),(2,Z1),(3,N m1),(4,slice true 5 (Tr.pvs ts1))] σ3:=
 BA [0,2,3,4] [st 1 (oW h1)]
theorem R63:Rn 85 a85:=fun _ _ _=>rfl
theorem AKP(x1:Hk σ m1)(h1:Hb 80 [123] σ true σ1)(L1:LL a85 0 [(0,r0),(2,Z1),(3,N m1),(4,slice true 5 [])] σ1 (.exit 0) [(0,r0),(2,Z1),(3,N m1),(4,slice true 5 (Tr.pvs ts1))] σ2)(h2:Hb 80 [125] σ2 b1 σ3)(h3:Hn m1 11 [] (.slice false 5 (Tr.pvs ts1)) σ3 U1):Ht 85 σ U1 σ3:=
 Bt R63 [st 4 (QS σ x1),st 4 (oW h1),sl 2 [0,2,3,4] L1,st 1 (oW h2),st 3 (oW h3),st 0 (zl σ3 U1)] (rz 2 U1)
theorem AKO(x1:Hk σ m1)(h1:Hb 80 [123] σ false σ1)(h2:Hn m1 11 [] .nils σ1 U1):Ht 85 σ U1 σ1:=
 Bt R63 [st 4 (QS σ x1),st 4 (oW h1),st 4 (oW h2),st 0 (zl σ1 U1)] (rz 2 U1)
theorem QU(h1:E 131 [r0] σ2 (.bool true) σ2):LL a85 0 [(0,r0),(2,Z1),(3,N m1),(4,slice true 5 (Tr.pvs ts1))] σ2 (.exit 0) [(0,r0),(2,Z1),(3,N m1),(4,slice true 5 (Tr.pvs ts1))] σ2:=
 BA [0,2,3,4] [st 1 (oW h1)]
theorem Xl(h1:E 131 [r0] σ2 (.bool false) σ2)(h2:Ht 43 σ2 U1 σ3)(l1:ts1.length+1≤Bn)(hl:LL a85 0 [(0,r0),(2,Z1),(3,N m1),(4,slice true 5 (Tr.pvs (ts1++[U1])))] σ3 e ff' σ'):LL a85 0 [(0,r0),(2,Z1),(3,N m1),(4,slice true 5 (Tr.pvs ts1))] σ2 e ff' σ':=
 BM [0,2,3,4] [st 1 (oW h1),st 4 (oW h2),st 0 (bz1 σ3 U1),sp 0 (JN true U1 l1)] hl
theorem R88:Rn 95 a95:=fun _ _ _=>rfl
theorem r88(x1:Hk σ m1)(h1:E 36 [r0,I 6,.str []] σ (.tuple []) σ1)(L1:LL a95 0 [(0,r0),(2,Z1),(3,N m1)] σ1 (.exit 0) [(0,r0),(2,Z1),(3,N m1)] σ2)(h2:Hn m1 1 [] .nils σ2 U1):Ht 95 σ U1 σ2:=
 Bt R88 [st 4 (QS σ x1),st 2 (oW h1),sl 0 [0,2,3] L1,st 2 (oW h2),st 0 (zl σ2 U1)] (rz 2 U1)
theorem MB(h1:E 131 [r0] σ2 (.bool true) σ2):LL a95 0 [(0,r0),(2,Z1),(3,N m1)] σ2 (.exit 0) [(0,r0),(2,Z1),(3,N m1)] σ2:=
 BA [0,2,3] [st 1 (oW h1)]
theorem Z7(h1:E 131 [r0] σ2 (.bool false) σ2)(x1:Hk σ2 m2)(c1:(m2:Int)=(m1:Int))(h2:Hs 37 σ2 s1 σ3)(c2:s1=[59]):LL a95 0 [(0,r0),(2,Z1),(3,N m1)] σ2 (.exit 0) [(0,r0),(2,Z1),(3,N m1)] σ3:=
 BA [0,2,3] [st 1 (oW h1),sg 5 (QS σ2 x1),sq 1 (BJ .i64 c1),st 8 (oW h2),sp 0 (Hr c2)]
theorem Xg(h1:E 131 [r0] σ2 (.bool false) σ2)(x1:Hk σ2 m2)(c1:(m2:Int)=(m1:Int))(h2:Hs 37 σ2 s1 σ3)(c2:s1≠[59])(hl:LL a95 0 [(0,r0),(2,Z1),(3,N m1)] σ3 e ff' σ'):LL a95 0 [(0,r0),(2,Z1),(3,N m1)] σ2 e ff' σ':=
 BM [0,2,3] [st 1 (oW h1),sg 5 (QS σ2 x1),sq 1 (BJ .i64 c1),st 8 (oW h2),sp 0 (Ip c2)] hl
theorem Z6(h1:E 131 [r0] σ2 (.bool false) σ2)(x1:Hk σ2 m2)(c1:(m2:Int)≠(m1:Int))(h2:E 137 [r0] σ2 (.bool true) σ2):LL a95 0 [(0,r0),(2,Z1),(3,N m1)] σ2 (.exit 0) [(0,r0),(2,Z1),(3,N m1)] σ2:=
 BA [0,2,3] [st 1 (oW h1),sg 5 (QS σ2 x1),sq 1 (AX .i64 c1),sg 2 (oW h2)]
theorem Z5(h1:E 131 [r0] σ2 (.bool false) σ2)(x1:Hk σ2 m2)(c1:(m2:Int)≠(m1:Int))(h2:E 137 [r0] σ2 (.bool false) σ2)(h3:Hs 37 σ2 s1 σ3)(c2:s1=[59]):LL a95 0 [(0,r0),(2,Z1),(3,N m1)] σ2 (.exit 0) [(0,r0),(2,Z1),(3,N m1)] σ3:=
 BA [0,2,3] [st 1 (oW h1),sg 5 (QS σ2 x1),sq 1 (AX .i64 c1),sg 2 (oW h2),st 5 (oW h3),sp 0 (Hr c2)]
theorem Xf(h1:E 131 [r0] σ2 (.bool false) σ2)(x1:Hk σ2 m2)(c1:(m2:Int)≠(m1:Int))(h2:E 137 [r0] σ2 (.bool false) σ2)(h3:Hs 37 σ2 s1 σ3)(c2:s1≠[59])(hl:LL a95 0 [(0,r0),(2,Z1),(3,N m1)] σ3 e ff' σ'):LL a95 0 [(0,r0),(2,Z1),(3,N m1)] σ2 e ff' σ':=
 BM [0,2,3] [st 1 (oW h1),sg 5 (QS σ2 x1),sq 1 (AX .i64 c1),sg 2 (oW h2),st 5 (oW h3),sp 0 (Ip c2)] hl
theorem R24:Rn 31 a31:=fun _ _ _=>rfl
theorem r24{z1:Int}(h1:E 68 [.str s] [] (.tuple [.slice false 4 (tl1.map Tk.pv),I z1]) [])(L1:LL a31 0 [(3,r0),(4,slice false 4 (tl1.map Tk.pv)),(6,I 0)] [y0 s .nils] (.exit 0) [(3,r0)] [y0 s (Bw 4 tl2)]):E 31 [.str s] [] r0 [y0 s (Bw 4 tl2)]:=
 rule R24 [st 6 (oCS [y0 s .nils] h1),sl 6 [3,4,6] L1]
theorem aW(c1:¬(m1:Int) < (tl1.length:Int)):LL a31 0 [(3,r0),(4,slice false 4 (tl1.map Tk.pv)),(6,N m1)] [y0 s (Bw 4 tl2)] (.exit 0) [(3,r0)] [y0 s (Bw 4 tl2)]:=
 BA [3] [sp 2 (FL false 4 tl1),sp 0 (BN .i64 c1)]
theorem XU{t2:Tk}(c1:(m1:Int) < (tl1.length:Int))(g1:tl1[m1]?=some t1)(c2:(t1.k:Int)≠4)(g2:tl1[m1]?=some t2)(l1:tl2.length+1≤Bn)(l2:m1<2000000000)(hl:LL a31 0 [(3,r0),(4,slice false 4 (tl1.map Tk.pv)),(6,N (m1+1))] [y0 s (Bw 4 (tl2++[t2.pv]))] e ff' σ'):LL a31 0 [(3,r0),(4,slice false 4 (tl1.map Tk.pv)),(6,N m1)] [y0 s (Bw 4 tl2)] e ff' σ':=
 BM [3,4,6] [sp 2 (FL false 4 tl1),sp 0 (AQ .i64 c1),sp 3 (BO (o:=false) (s:=4) m1 g1),sp 2 (DU .i64 c2),st 2 (Bk6:Bh pur run (.w .ldo) [.ref 0 1] [y0 s (Bw 4 tl2)] [some (Bw 4 tl2)] [y0 s (BG 4 tl2)]),sp 2 (BO (o:=false) (s:=4) m1 g2),st 2 (FV (Gr l1):Bh pur run (.p (.app 4)) [Bw 4 tl2,.slice true 4 [t2.pv]] [y0 s (BG 4 tl2)] [some (Bw 4 (tl2++[t2.pv])),some (BG 4 tl2)] [y0 s (BG 4 tl2)]),st 1 (Bj6:Bh pur run (.w .sto) [.ref 0 1,Bw 4 (tl2++[t2.pv])] [y0 s (BG 4 tl2)] [some (BG 4 (tl2++[t2.pv]))] [y0 s (Bw 4 (tl2++[t2.pv]))]),sp 1 (AB m1 1 l2)] hl
theorem XT(c1:(m1:Int) < (tl1.length:Int))(g1:tl1[m1]?=some t1)(c2:(t1.k:Int)=4)(l1:m1<2000000000)(hl:LL a31 0 [(3,r0),(4,slice false 4 (tl1.map Tk.pv)),(6,N (m1+1))] [y0 s (Bw 4 tl2)] e ff' σ'):LL a31 0 [(3,r0),(4,slice false 4 (tl1.map Tk.pv)),(6,N m1)] [y0 s (Bw 4 tl2)] e ff' σ':=
 BM [3,4,6] [sp 2 (FL false 4 tl1),sp 0 (AQ .i64 c1),sp 3 (BO (o:=false) (s:=4) m1 g1),sp 2 (DF .i64 c2),sp 2 (AB m1 1 l1)] hl
theorem R9:Rn 14 a14:=fun _ _ _=>rfl
theorem BjA{dl1:List Dg}{es1:List PV}{dl2:List Dg}(c1:¬(s.length:Int) > 4096)(h1:E 31 [.str s] [] r0 σ1)(L1:LL a14 0 [(0,str s),(2,Z1),(5,r0),(6,slice true 5 [])] σ1 (.exit 0) [(0,str s),(2,Z1),(5,r0),(6,slice true 5 (Tr.pvs ts1))] σ2)(h2:E 40 [.str s] [] (.slice false 5 (dl1.map Dg.pv)) [])(x1:Fq (.ld 1 false) [.ref 0 4] σ2=some [some (BG 5 es1)])(h3:E 39 [.slice false 5 (dl1.map Dg.pv),BG 5 es1] [] (.slice false 5 (dl2.map Dg.pv)) []):E 14 [.str s] [] (.tuple [.agg [I 2,.str [],I 0,N s.length,.slice false 5 (Tr.pvs ts1)],.slice false 5 (dl2.map Dg.pv),I 0]) σ2:=
 rule R9 [sp 5 (DI .i64 c1),st 2 (oW h1),sl 3 [0,2,5,6] L1,st 5 (oCS σ2 h2),st 3 (QS σ2 x1),st 0 (oCS σ2 h3)]
theorem fA(h1:Hc σ2 m1)(c1:(m1:Int)=5):LL a14 0 [(0,str s),(2,Z1),(5,r0),(6,slice true 5 (Tr.pvs ts1))] σ2 (.exit 0) [(0,str s),(2,Z1),(5,r0),(6,slice true 5 (Tr.pvs ts1))] σ2:=
 BA [0,2,5,6] [st 1 (oW h1),sp 0 (DF .i64 c1)]
theorem ZY(h1:Hc σ2 m1)(c1:(m1:Int)≠5)(h2:Hb 33 [114,101,99,111,114,100] σ2 true σ2)(h3:Ht 34 σ2 U1 σ3)(l1:ts1.length+1≤Bn)(hl:LL a14 0 [(0,str s),(2,Z1),(5,r0),(6,slice true 5 (Tr.pvs (ts1++[U1])))] σ3 e ff' σ'):LL a14 0 [(0,str s),(2,Z1),(5,r0),(6,slice true 5 (Tr.pvs ts1))] σ2 e ff' σ':=
 BM [0,2,5,6] [st 1 (oW h1),sp 0 (DU .i64 c1),st 2 (oW h2),st 4 (oW h3),st 0 (bz1 σ3 U1),sp 0 (JN true U1 l1)] hl
theorem ZX(h1:Hc σ2 m1)(c1:(m1:Int)≠5)(h2:Hb 33 [114,101,99,111,114,100] σ2 false σ2)(h3:Hb 33 [112,114,111,99] σ2 true σ2)(h4:Ht 35 σ2 U1 σ3)(l1:ts1.length+1≤Bn)(hl:LL a14 0 [(0,str s),(2,Z1),(5,r0),(6,slice true 5 (Tr.pvs (ts1++[U1])))] σ3 e ff' σ'):LL a14 0 [(0,str s),(2,Z1),(5,r0),(6,slice true 5 (Tr.pvs ts1))] σ2 e ff' σ':=
 BM [0,2,5,6] [st 1 (oW h1),sp 0 (DU .i64 c1),st 2 (oW h2),st 3 (oW h3),st 4 (oW h4),st 0 (bz1 σ3 U1),sp 0 (JN true U1 l1)] hl
theorem ZW(h1:Hc σ2 m1)(c1:(m1:Int)≠5)(h2:Hb 33 [114,101,99,111,114,100] σ2 false σ2)(h3:Hb 33 [112,114,111,99] σ2 false σ2)(x1:Hk σ2 m2)(h4:E 36 [r0,I 7,.str []] σ2 (.tuple []) σ3)(L1:LL a14 1 [(0,str s),(2,Z1),(5,r0),(6,slice true 5 (Tr.pvs ts1)),(7,N m2)] σ3 (.exit 3) [(0,str s),(2,Z1),(5,r0),(6,slice true 5 (Tr.pvs ts1)),(7,N m2)] σ4)(h5:Hn m2 1 [] .nils σ4 U1)(l1:ts1.length+1≤Bn)(hl:LL a14 0 [(0,str s),(2,Z1),(5,r0),(6,slice true 5 (Tr.pvs (ts1++[U1])))] σ4 e ff' σ'):LL a14 0 [(0,str s),(2,Z1),(5,r0),(6,slice true 5 (Tr.pvs ts1))] σ2 e ff' σ':=
 BM [0,2,5,6] [st 1 (oW h1),sp 0 (DU .i64 c1),st 2 (oW h2),st 3 (oW h3),st 5 (QS σ2 x1),st 2 (oW h4),sl 0 [0,2,5,6,7] L1,st 3 (oW h5),st 0 (bz1 σ4 U1),sp 0 (JN true U1 l1)] hl
theorem fw(h1:Hc σ4 m1)(c1:(m1:Int)=5):LL a14 1 [(0,str s),(2,Z1),(5,r0),(6,slice true 5 (Tr.pvs ts1)),(7,N m2)] σ4 (.exit 3) [(0,str s),(2,Z1),(5,r0),(6,slice true 5 (Tr.pvs ts1)),(7,N m2)] σ4:=
 BA [0,2,5,6,7] [st 1 (oW h1),sp 0 (DF .i64 c1)]
theorem fu(h1:Hc σ4 m1)(c1:(m1:Int)≠5)(h2:Hb 33 [114,101,99,111,114,100] σ4 true σ4):LL a14 1 [(0,str s),(2,Z1),(5,r0),(6,slice true 5 (Tr.pvs ts1)),(7,N m2)] σ4 (.exit 3) [(0,str s),(2,Z1),(5,r0),(6,slice true 5 (Tr.pvs ts1)),(7,N m2)] σ4:=
 BA [0,2,5,6,7] [st 1 (oW h1),sp 0 (DU .i64 c1),sg 2 (oW h2)]
theorem fq(h1:Hc σ4 m1)(c1:(m1:Int)≠5)(h2:Hb 33 [114,101,99,111,114,100] σ4 false σ4)(h3:Hb 33 [112,114,111,99] σ4 true σ4):LL a14 1 [(0,str s),(2,Z1),(5,r0),(6,slice true 5 (Tr.pvs ts1)),(7,N m2)] σ4 (.exit 3) [(0,str s),(2,Z1),(5,r0),(6,slice true 5 (Tr.pvs ts1)),(7,N m2)] σ4:=
 BA [0,2,5,6,7] [st 1 (oW h1),sp 0 (DU .i64 c1),sg 2 (oW h2),sg 4 (oW h3)]
theorem QT(h1:Hc σ4 m1)(c1:(m1:Int)≠5)(h2:Hb 33 [114,101,99,111,114,100] σ4 false σ4)(h3:Hb 33 [112,114,111,99] σ4 false σ4)(h4:Hs 37 σ4 s1 σ5)(hl:LL a14 1 [(0,str s),(2,Z1),(5,r0),(6,slice true 5 (Tr.pvs ts1)),(7,N m2)] σ5 e ff' σ'):LL a14 1 [(0,str s),(2,Z1),(5,r0),(6,slice true 5 (Tr.pvs ts1)),(7,N m2)] σ4 e ff' σ':=
 BM [0,2,5,6,7] [st 1 (oW h1),sp 0 (DU .i64 c1),sg 2 (oW h2),sg 4 (oW h3),st 4 (oW h4)] hl
end Go.Abs.Z

namespace Go.Abs.Z
open Go.Proofs Go.RowKit
def kdE(kd:Nat):Bool:=kd==6||kd==11||kd==19||kd==27
mutual

def trR(ls:List Tk):AT→Tr
 |.mk kd tx f k b ks=>.mk kd tx (match Fw ls ks with | []=>if f<k then(tA ls f:Nat) else(en ls k:Nat) | u::_=>min (if f<k then((tA ls f:Nat):Int) else(en ls k:Nat)) u.st) (en ls k:Nat) (ks.isEmpty&&!(b&&kdE kd)) (Fw ls ks)
def Fw(ls:List Tk):List AT→List Tr
 |[]=>[]
 |x::xs=>trR ls x::Fw ls xs
end
theorem RZ(ls:List Tk):∀xs:List AT,Fw ls xs=xs.map (trR ls)
 |[]=>rfl
 |x::xs=>by rw[Fw,RZ ls xs];rfl
theorem kg(ls:List Tk)(xs:List AT)(x:AT):Fw ls (xs++[x])=Fw ls xs++[trR ls x]:=by simp[RZ]
theorem nD(ls:List Tk)(xs:List AT):(Fw ls xs).length=xs.length:=by simp[RZ]
def RS4(s:List UInt8)(ls:List Tk)(k:Nat)(D:List AD):Sto:=[qc s ls k (en ls k) (D.map (dgp ls))]
section
variable{s:List UInt8}{ls:List Tk}{m:Nat}{k f:Nat}{D:List AD}
theorem ldK:Fq (.ld 1 false) [.ref 0 2] (RS4 s ls k D)=some [some (N k)]:=rfl
theorem u25(H:CG s ls m)(h:k≤m):E 32 [rf] (RS4 s ls k D) (N (wAt s ls k).1) (RS4 s ls k D):=by
 obtain⟨t,ht⟩:=H.at h;rw[Jw ht];exact r25 ht
theorem u65(H:CG s ls m){i:Nat}{t:Tk}(ht:ls[i]?=some t):E 87 [.str s,t.pv] [] (.str (wd s t)) []:=by
 obtain⟨h1,h2⟩:=H.ord i t ht;exact r65 (NU s t.a t.e h1 h2)
theorem u56(H:CG s ls m)(h:k≤m):E 78 [rf] (RS4 s ls k D) (.str (wAt s ls k).2) (RS4 s ls k D):=by
 obtain⟨t,ht⟩:=H.at h;rw[Jw ht];exact r56 ht (u65 H ht)
theorem H5(H:CG s ls m)(h:k≤m)(h5:(wAt s ls k).1=5):k=m:=by
 rcases Bc k m with h' | h'
 ·obtain⟨t,ht⟩:=H.at h;have:=H.kd k t ht h';rw[Jw ht] at h5
  simp only at h5
  omega
 ·omega
theorem EA(H:CG s ls m)(hk:k≤m)(w:List UInt8){b:Bool}(hb:[w].contains (wAt s ls k).2=b)(hw:w≠[]:=by simp):E 33 [rf,.str w] (RS4 s ls k D) (.bool b) (RS4 s ls k D):=by
 by_cases h5:(wAt s ls k).1=5
 ·have:=H5 H hk h5;subst this;rw[H.end'] at hb
  have:b=false:=by
   rw[←hb];simp only[BH,Cn,CJ,beq_eq_false_iff_ne];exact fun e=>hw e.symm
  rw[this];exact AVX (u25 H hk) (by omega)
 ·have h:=AVY (w:=w) (u25 (D:=D) H hk) (by omega) (u56 H hk)
  have e:((wAt s ls k).2==w)=b:=by rw[←hb];simp only[BH,Cn,CJ]
  rwa [e] at h
theorem u30(H:CG s ls m)(h:k<m):E 37 [rf] (RS4 s ls k D) (.str (wAt s ls k).2) (RS4 s ls (k+1) D):=by
 obtain⟨t,ht⟩:=H.at (Dz h);have:=H.big;have h2:=r30 (u56 (D:=D) H (Dz h)) ht (by omega)
 have e:en ls (k+1)=t.e:=QM ht;unfold RS4;rw[e];exact h2
theorem u29(H:CG s ls m)(h:k≤m)(hD:Dok k D)(c:Nat)(x:List UInt8):E 36 [rf,N c,.str x] (RS4 s ls k D) (.tuple []) (RS4 s ls k (rp D c k x)):=by
 obtain⟨t,ht⟩:=H.at h;have hb:=H.big;have hl:=hD.small
 have e4:dgp ls ⟨c,k,x⟩=(.agg [N c,N t.a,N t.e,.str x,.nils]):=by
  show(Dg.mk c (tA ls k) (tE ls k) x).pv=_;rw[JY ht,QM ht];rfl
 have hm:(D.map (dgp ls)).length+1≤Bn:=by rw[Aq];unfold Bn;omega
 have hsn:D.map (dgp ls)++[.agg [N c,N t.a,N t.e,.str x,.nils]]=(D++[(⟨c,k,x⟩:AD)]).map (dgp ls):=by rw[Ca,←e4];rfl
 unfold rp;rcases Em D.length with h0 | h0
 ·have hD0:=Aw.1 h0;subst hD0;have:=AVW (s:=s) (ls:=ls) (k:=k) (l:=en ls k) (es:=([]:List AD).map (dgp ls)) (c:=c) (tx:=x) ht (by simp) hm
  rw[hsn] at this;exact this
 ·have hlast:D[D.length - 1]?=some D[D.length - 1]:=Ah (by omega)
  have hg:(D.map (dgp ls))[(D.map (dgp ls)).length - 1]?=some (dgA ls D[D.length - 1]).pv:=by
   rw[Aq,Am,hlast];rfl
  have hi:=hD.2 _ (Ci (by omega:D.length - 1<D.length))
  obtain⟨u,hu⟩:=H.at (k:=D[D.length - 1].i) (by omega)
  have ea:(dgA ls D[D.length - 1]).a=u.a:=JY hu;have hgl:D.getLast?=some D[D.length - 1]:=by rw[List.getLast?_eq_getElem?];exact hlast
  rw[hgl,AO];by_cases hc:D[D.length - 1].i=k
  ·rw[if_pos (by rw[hc])]
   rw[hc] at hu;rw[ht] at hu;cases hu;exact AVV ht (by rw[Aq];omega) (by rw[Aq];omega) (by rw[Aq];omega) hg (by omega)
  ·rw[if_neg (fun e=>hc (Option.some.inj e))]
   have hlt:=(H.inc _ _ _ _ hu ht (by omega)).1
   have:=AVU (s:=s) (l:=en ls k) (c:=c) (tx:=x) ht (by rw[Aq];omega) (by rw[Aq];omega) (by rw[Aq];omega) hg (by omega) hm
   rw[hsn] at this;exact this
theorem MJ(H:CG s ls m)(hf:f≤k)(hk:k≤m)(kd:Nat)(tx:List UInt8)(b:Bool)(hb:(b&&kdE kd)=false:=by rfl):E 38 [rf,N f,N kd,.str tx,.nils] (RS4 s ls k D) (trR ls (.mk kd tx f k b [])).pv (RS4 s ls k D):=by
 by_cases h:f<k
 ·obtain⟨t,ht⟩:=H.at (k:=f) (by omega)
  have:=Aj2 (s:=s) (l:=en ls k) (es:=D.map (dgp ls)) (kd:=(kd:Int)) (tx:=tx) (k:=k) (by omega) ht
  have e:(trR ls (.mk kd tx f k b [])).pv=.agg [N kd,.str tx,N t.a,N (en ls k),.nils]:=by
   rw[trR];simp only[Fw,if_pos h,JY ht,hb];rfl
  rw[e];exact this
 ·have:=Aj1 (s:=s) (ls:=ls) (l:=en ls k) (es:=D.map (dgp ls)) (kd:=(kd:Int)) (tx:=tx) (k:=k) (fi:=f) (by omega)
  have e:(trR ls (.mk kd tx f k b [])).pv=.agg [N kd,.str tx,N (en ls k),N (en ls k),.nils]:=by
   rw[trR];simp only[Fw,if_neg h,hb];rfl
  rw[e];exact this
theorem AWM(H:CG s ls m)(hf:f≤k)(hk:k≤m)(kd:Nat)(tx:List UInt8)(hb:kdE kd=true:=by rfl):E 38 [rf,N f,N kd,.str tx,.slice false 5 []] (RS4 s ls k D) (trR ls (.mk kd tx f k true [])).pv (RS4 s ls k D):=by
 by_cases h:f<k
 ·obtain⟨t,ht⟩:=H.at (k:=f) (by omega)
  have:=AVT (s:=s) (l:=en ls k) (es:=D.map (dgp ls)) (kd:=(kd:Int)) (tx:=tx) (k:=k) (us:=[]) (by omega) ht (by simp)
  have e:(trR ls (.mk kd tx f k true [])).pv=.agg [N kd,.str tx,N t.a,N (en ls k),.slice false 5 (Tr.pvs [])]:=by
   rw[trR];simp only[Fw,if_pos h,JY ht,hb];rfl
  rw[e];exact this
 ·have:=AVS (s:=s) (ls:=ls) (l:=en ls k) (es:=D.map (dgp ls)) (kd:=(kd:Int)) (tx:=tx) (k:=k) (fi:=f) (us:=[]) (by omega) (by simp)
  have e:(trR ls (.mk kd tx f k true [])).pv=.agg [N kd,.str tx,N (en ls k),N (en ls k),.slice false 5 (Tr.pvs [])]:=by
   rw[trR];simp only[Fw,if_neg h,hb];rfl
  rw[e];exact this
theorem Qs(H:CG s ls m)(hf:f≤k)(hk:k≤m)(kd:Nat)(tx:List UInt8)(b:Bool)(us:List AT)(hu:us≠[]:=by simp):E 38 [rf,N f,N kd,.str tx,.slice false 5 (Tr.pvs (Fw ls us))] (RS4 s ls k D) (trR ls (.mk kd tx f k b us)).pv (RS4 s ls k D):=by
 cases us with
 |nil=>exact absurd rfl hu
 |cons u us=>
  have hl:(((Fw ls (u::us)).length:Nat):Int) > 0:=by simp[Fw]
  have h0:(Fw ls (u::us))[0]?=some (trR ls u):=rfl
  have e (x:Int) (hx:x=min (if f<k then((tA ls f:Nat):Int) else(en ls k:Nat)) (trR ls u).st):(trR ls (.mk kd tx f k b (u::us))).pv=.agg [N kd,.str tx,I x,N (en ls k),.slice false 5 (Tr.pvs (Fw ls (u::us)))]:=by
   subst hx;rw[trR];rfl
  by_cases h:f<k
  ·obtain⟨t,ht⟩:=H.at (k:=f) (by omega)
   rw[if_pos h,JY ht] at e;by_cases hc:(trR ls u).st<((t.a:Nat):Int)
   ·rw[e (trR ls u).st (by omega)]
    exact AVR (by omega) ht hl h0 hc h0
   ·rw[e ((t.a:Nat):Int) (by omega)]
    exact AVQ (by omega) ht hl h0 hc
  ·rw[if_neg h] at e;by_cases hc:(trR ls u).st<((en ls k:Nat):Int)
   ·rw[e (trR ls u).st (by omega)]
    exact AVP (by omega) hl h0 hc h0
   ·rw[e ((en ls k:Nat):Int) (by omega)]
    exact AVO (by omega) hl h0 hc
end
theorem tC(c:UInt8)(x:List UInt8):dgt (c::x)=if c=48 then(if x=[] then[48] else dgt x) else c::x:=by
 unfold dgt;by_cases h:c=48
 ·subst h;cases x with
  |nil=>simp
  |cons d x=>simp
 ·simp[h]
theorem e120(x:List UInt8)(hx:x.length<1000000):E 133 [.str x] [] (.str (dgt x)) []:=by
 refine BjQ ?_
 have key:∀(n:Nat) (x:List UInt8),x.length=n→n<1000000→LL iy 0 [(0,some (.str x))] [] (.exit 0) [(0,some (.str (dgt x)))] []:=by
  intro n
  induction n with
  |zero=>
   intro x hx _;have:x=[]:=Aw.1 hx;subst this;exact LF (by simp)
  |succ n ih=>
   intro x hx hn;cases x with
   |nil=>simp at hx
   |cons c x=>
    rw[tC];by_cases hc:c=48
    ·subst hc;rw[if_pos rfl];cases x with
     |nil=>exact LF (by simp)
     |cons d x=>
      rw[if_neg (by simp)]
      refine Vo (c2:=48) (s2:=d::x) (by simp;omega) rfl rfl ?_ (ih (d::x) (by simpa using hx) (by omega))
      have h1:(1:Int)≤((((48:UInt8)::d::x).length:Nat):Int):=by simp;omega
      simp[Be,PN,h1];simpa using h1
    ·rw[if_neg hc];by_cases hl:x=[]
     ·subst hl;exact LF (by simp)
     ·have:=CY.2 hl;refine Yt (c2:=c) (by simp;omega) rfl ?_
      intro e;apply hc;have:c.toNat=48:=by omega
      exact UInt8.toNat_inj.1 this
 exact key _ x rfl hx
theorem tq(ws:List (List UInt8))(x:List UInt8)(hl:ws.length<1000):E 135 [.slice false 1 (ws.map PV.str),.str x] [] (.bool (ws.contains x)) []:=by
 have key:∀(n j:Nat),j+n=ws.length→(∀i,i<j→ws[i]?≠some x)→
   (LL Zk 0 [(0,some (.slice false 1 (ws.map PV.str))),(1,some (.str x)),(5,some (N j))] [] .ret [(4,some (.bool true))] []∧ws.contains x=true) ∨
   (LL Zk 0 [(0,some (.slice false 1 (ws.map PV.str))),(1,some (.str x)),(5,some (N j))] [] (.exit 0) [] []∧ws.contains x=false):=by
  intro n
  induction n with
  |zero=>
   intro j hj h;refine .inr ⟨Yv (by omega),?_⟩
   rw[←Ff,CO,BL]
   rintro⟨i,hi⟩
   have:=(Ad.1 hi).1;exact h i (by omega) hi
  |succ n ih=>
   intro j hj h;have hlt:j<ws.length:=by omega
   have hg:=Ah hlt;by_cases hx:ws[j]=x
   ·refine .inl ⟨Yu (by omega) hg hx,?_⟩
    rw[CO,←hx];exact Ci hlt
   ·rcases ih (j+1) (by omega) (fun i hi=>by
     rcases Bc i j with h' | h'
     ·exact h i h'
     ·have:i=j:=by omega
      subst this;rw[hg];intro e;exact hx (Option.some.inj e)) with⟨h1,h2⟩ | ⟨h1,h2⟩
    ·exact .inl ⟨NS (by omega) hg hx (by omega) h1,h2⟩
    ·exact .inr ⟨NS (by omega) hg hx (by omega) h1,h2⟩
 rcases key ws.length 0 (by omega) (fun i h=>by omega) with⟨h1,h2⟩ | ⟨h1,h2⟩
 ·rw[h2];exact Av4 h1
 ·rw[h2];exact Av5 h1
section
variable{s:List UInt8}{ls:List Tk}{m:Nat}{k f:Nat}{D:List AD}{c:NT→Nat→List AD→K4}{r:Rs×Nat×List AD}{p q:Pg}
theorem v29(H:CG s ls m){e:Nat}{t:List UInt8}(h:G4 s ls m c r (.report e t p) k D):E 36 [rf,N e,.str t] (RS4 s ls k D) (.tuple []) (RS4 s ls k (rp D e k t))∧G4 s ls m c r p k (rp D e k t):=
 ⟨u29 H h.le h.ok e t,h.rep⟩
theorem VD(H:CG s ls m)(h:G4 s ls m c r (.read p) k D):E 37 [rf] (RS4 s ls k D) (.str (wAt s ls k).2) (RS4 s ls (k+1) D)∧G4 s ls m c r p (k+1) D:=by
 obtain⟨h1,h2⟩:=h.read (w5 H);exact⟨u30 H h1,h2⟩
theorem vrd(H:CG s ls m){g:List UInt8→Pg}(h:G4 s ls m c r (Pg.rd g) k D):E 37 [rf] (RS4 s ls k D) (.str (wAt s ls k).2) (RS4 s ls (k+1) D)∧G4 s ls m c r (g (wAt s ls k).2) (k+1) D:=by
 obtain⟨h1,h2⟩:=h.rd (w5 H);exact⟨u30 H h1,h2⟩
theorem acT(H:CG s ls m)(hk:k<m)(x:List UInt8)(hc:[x].contains (wAt s ls k).2=true)(hx:x≠[]:=by simp):E 82 [rf,.str x] (RS4 s ls k D) (.bool true) (RS4 s ls (k+1) D):=
 AKU (EA H (Dz hk) x hc hx) (u30 H hk)
theorem acF(H:CG s ls m)(hk:k≤m)(x:List UInt8)(hc:[x].contains (wAt s ls k).2=false)(hx:x≠[]:=by simp):E 82 [rf,.str x] (RS4 s ls k D) (.bool false) (RS4 s ls k D):=
 AKT (EA H hk x hc hx)
theorem vac(H:CG s ls m)(x:List UInt8)(h:G4 s ls m c r (Pg.ifW [x] (.read p) q) k D)(hx:x≠[]:=by simp):
  (E 82 [rf,.str x] (RS4 s ls k D) (.bool true) (RS4 s ls (k+1) D)∧G4 s ls m c r p (k+1) D∧[x].contains (wAt s ls k).2=true)∨(E 82 [rf,.str x] (RS4 s ls k D) (.bool false) (RS4 s ls k D)∧G4 s ls m c r q k D∧[x].contains (wAt s ls k).2=false):=by
 rcases h.ifW with⟨hc,h⟩ | ⟨hc,h⟩
 ·have h2:=(h.read (w5 H));exact .inl ⟨acT H h2.1 x hc hx,h2.2,hc⟩
 ·exact .inr ⟨acF H h.le x hc hx,h,hc⟩
theorem vxp(H:CG s ls m)(x:List UInt8)(h:G4 s ls m c r (Pg.xp x p) k D)(hx:x≠[]:=by simp):
  ∃k1 D1 b,k≤k1∧E 80 [rf,.str x] (RS4 s ls k D) (.bool b) (RS4 s ls k1 D1)∧G4 s ls m c r p k1 D1:=by
 rcases vac H x h hx with⟨h1,h2,_⟩ | ⟨h1,h2,_⟩
 ·exact⟨_,_,_,by omega,y9 h1,h2⟩
 ·obtain⟨h3,h4⟩:=v29 H h2;exact⟨_,_,_,Ag _,y8 h1 h3,h4⟩
theorem vnm(H:CG s ls m){g:List UInt8→Pg}(h:G4 s ls m c r (Pg.nm g) k D):∃x k1 D1,k≤k1∧E 79 [rf] (RS4 s ls k D) (.str x) (RS4 s ls k1 D1)∧G4 s ls m c r (g x) k1 D1:=by
 rcases h.ifK with⟨hc,h⟩ | ⟨hc,h⟩
 ·obtain⟨h1,h2⟩:=vrd H h;exact⟨_,_,_,by omega,AKZ (u25 H (by have:=h2.le;omega)) (by omega) h1,h2⟩
 ·obtain⟨h3,h4⟩:=v29 H h;exact⟨_,_,_,Ag _,AKY (u25 H h.le) (by omega) h3,h4⟩
theorem gM{x y:List UInt8}(h:[x].contains y=true):y=x:=by simpa using h
theorem Bk5{x y z:List UInt8}(h:[x].contains z=true)(hxy:[y].contains x=false):[y].contains z=false:=by rw[gM h];exact hxy
theorem vwr(H:CG s ls m){g:AT→Pg}(h:G4 s ls m c r (written g) k D):∃x k1 D1,k≤k1∧E 84 [rf] (RS4 s ls k D) (trR ls x).pv (RS4 s ls k1 D1)∧G4 s ls m c r (g x) k1 D1:=by
 rcases vac H [58] h with⟨a1,h,_⟩ | ⟨a1,h,_⟩
 ·have hk1:k+1≤m:=h.le;have h:=h.mrk;have hok:=h.ok;rcases vac H NF h with⟨a2,h,b2⟩ | ⟨a2,h,b2⟩
  ·have a0:=acF (D:=D) H hk1 JU (Bk5 b2 (by decide))
   rcases vac H [91] h with⟨a3,h,_⟩ | ⟨a3,h,_⟩
   ·rcases G3.ifK (show G4 s ls m c r (Pg.ifK 2 (Pg.rd fun x=>Pg.xp [93] (Pg.bd 10 (dgt x) (k+1) false [] g)) (.report 4 iE (Pg.xp [93] (Pg.bd 10 [] (k+1) false [] g)))) (k+1+1+1) D from h) with⟨hc,h⟩ | ⟨hc,h⟩
    ·have hk3:=h.le;obtain⟨a4,h⟩:=vrd H h;obtain⟨k2,D2,b,l2,a5,h⟩:=vxp H [93] h;exact⟨_,_,_,by omega,VN a1 (AvB ldK a0 a2 a3 (u25 H hk3) (by omega) a4 (e120 _ (Wy H _)) a5 (MJ H (by omega) h.le 10 _ false)),h.bd⟩
    ·obtain⟨a4,h4⟩:=v29 H h;obtain⟨k2,D2,b,l2,a5,h5⟩:=vxp H [93] h4;exact⟨_,_,_,by omega,VN a1 (AvA ldK a0 a2 a3 (u25 H h.le) (by omega) a4 a5 (MJ H (by omega) h5.le 10 _ false)),h5.bd⟩
   ·exact⟨_,_,_,by omega,VN a1 (AvE ldK a0 a2 a3 (MJ H (by omega) h.le 9 NF false)),h.bd⟩
  ·rcases vac H JU h with⟨a3,h,_⟩ | ⟨a3,h,_⟩
   ·exact⟨_,_,_,by omega,VN a1 (AvF ldK a3 (MJ H (by omega) h.le 9 JU false)),h.bd⟩
   ·rcases h.ifK with⟨hc,h⟩ | ⟨hc,h⟩
    ·obtain⟨a4,h⟩:=vrd H h;exact⟨_,_,_,by omega,VN a1 (AvD ldK a3 a2 (u25 H hk1) (by omega) a4 (MJ H (by omega) h.le 9 _ false)),h.bd⟩
    ·obtain⟨a4,h4⟩:=v29 H h;exact⟨_,_,_,by omega,VN a1 (AvC ldK a3 a2 (u25 H hk1) (by omega) a4 (MJ H (Ag _) hk1 1 [] false)),h4.mrk.bd⟩
 ·exact⟨_,_,_,Ag _,AKQ a1 ldK (MJ H (Ag _) h.le 0 [] false),h.mrk.bd⟩
theorem YI{x y z:List UInt8}(h:[x,y].contains z=false):[x].contains z=false∧[y].contains z=false:=by
 simp only[BH,Cn,CJ,DZ] at h ⊢;exact h
theorem rZ{x y z:List UInt8}(h:[x,y].contains z=true)(h1:[x].contains z=false):[y].contains z=true:=by
 simp only[BH,Cn,CJ,CW] at h h1 ⊢;rw[h1] at h;simpa using h
theorem nA(H:CG s ls m){g:AT→Pg}(h:G4 s ls m c r (Qz g) k D):∃x k1 D1,k≤k1∧E 81 [rf] (RS4 s ls k D) (trR ls x).pv (RS4 s ls k1 D1)∧G4 s ls m c r (g x) k1 D1:=by
 obtain⟨x,k1,D1,l1,a1,h⟩:=vnm H h.mrk;obtain⟨k2,D2,b,l2,a2,h⟩:=vxp H [58] h;have hk2:=h.le;rcases h.ifW with⟨hc,h⟩ | ⟨hc,h⟩
 ·obtain⟨a3,h⟩:=vrd H h.mrk;cases hi:[NF].contains (wAt s ls k2).2 with
  |true=>exact⟨_,_,_,by omega,AKX ldK a1 a2 ldK (EA H hk2 NF hi) a3 (MJ H (by omega) h.le 9 _ false) (Qs H (by omega) h.le 4 x false [_]),h.bd.bd⟩
  |false=>exact⟨_,_,_,by omega,AKW ldK a1 a2 ldK (EA H hk2 NF hi) (EA H hk2 JU (rZ hc hi)) a3 (MJ H (by omega) h.le 9 _ false) (Qs H (by omega) h.le 4 x false [_]),h.bd.bd⟩
 ·obtain⟨b1,b2⟩:=YI hc;obtain⟨a3,h⟩:=v29 H h;exact⟨_,_,_,by omega,AKV ldK a1 a2 ldK (EA H hk2 NF b1) (EA H hk2 JU b2) a3 (MJ H (Ag _) h.le 1 [] false) (Qs H (by omega) h.le 4 x false [_]),h.mrk.bd.bd⟩
theorem ny(H:CG s ls m){g:AT→Pg}(h:G4 s ls m c r (Qo g) k D):∃x k1 D1,k≤k1∧E 129 [rf] (RS4 s ls k D) (trR ls x).pv (RS4 s ls k1 D1)∧G4 s ls m c r (g x) k1 D1:=by
 rcases vac H Og h.mrk with⟨a1,h,_⟩ | ⟨a1,h,_⟩
 ·obtain⟨x,k1,D1,l1,a2,h⟩:=vnm H h;obtain⟨t,k2,D2,l2,a3,h⟩:=vwr H h;exact⟨_,_,_,by omega,AvH ldK a1 a2 a3 (Qs H (by omega) h.le 8 x false [_]),h.bd⟩
 ·obtain⟨x,k1,D1,l1,a2,h⟩:=vnm H h;obtain⟨t,k2,D2,l2,a3,h⟩:=vwr H h;exact⟨_,_,_,by omega,AvG ldK a1 a2 a3 (Qs H (by omega) h.le 7 x false [_]),h.bd⟩
theorem AZE(H:CG s ls m){g:AT→Pg}(h:G4 s ls m c r (Ja g) k D):∃x k1 D1,k≤k1∧E 134 [rf] (RS4 s ls k D) (trR ls x).pv (RS4 s ls k1 D1)∧G4 s ls m c r (g x) k1 D1:=by
 obtain⟨x,k1,D1,l1,a1,h⟩:=vnm H h.mrk;exact⟨_,_,_,by omega,BjP ldK a1 (MJ H (by omega) h.le 20 x false),h.bd⟩
end
end Go.Abs.Z

namespace Go.Abs.Z
open Go.Proofs Go.RowKit
abbrev slO(us:List Tr):PV:=.slice true 5 (Tr.pvs us)
def ER(s:List UInt8)(ls:List Tk)(n:Nat):NT→Nat→List AD→Rs→Nat→List AD→Prop
 |.ex L,k,D,v,k1,D1=>(L=1∨L=2∨L=3∨L=5∨L=6∨L=7)→E 41 [rf,N L] (RS4 s ls k D) (trR ls v.1).pv (RS4 s ls k1 D1)
 |.lp L f x,k,D,v,k1,D1=>(L=1∨L=2∨L=5∨L=6)→f≤k→
   LL a41 0 [(0,some rf),(1,some (N L)),(4,some Z0),(5,some (N f)),(8,some (trR ls x).pv)] (RS4 s ls k D) (.exit 1)
    [(0,some rf),(1,some (N L)),(4,some Z0),(5,some (N f)),(8,some (trR ls v.1).pv)] (RS4 s ls k1 D1)
 |.tl e acc,k,D,v,k1,D1=>acc≠[]→acc.length+n≤IM→v.2≠[]∧match e with
  |.ex=>(∀a:Nat,LL a88 0 [(0,some rf),(2,some Z0),(3,some (N a)),(6,some (slO (Fw ls acc)))] (RS4 s ls k D) (.exit 1) [(0,some rf),(2,some Z0),(3,some (N a)),(6,some (slO (Fw ls v.2)))] (RS4 s ls k1 D1))∧
    LL a93 0 [(0,some rf),(3,some (slO (Fw ls acc)))] (RS4 s ls k D) (.exit 0) [(0,some rf),(3,some (slO (Fw ls v.2)))] (RS4 s ls k1 D1)
  |.fd=>∀(a:Nat) (x:List UInt8),LL a34 0 [(0,some rf),(2,some Z0),(3,some (N a)),(4,some (.str x)),(5,some (slO (Fw ls acc)))] (RS4 s ls k D) (.exit 0) [(0,some rf),(2,some Z0),(3,some (N a)),(4,some (.str x)),(5,some (slO (Fw ls v.2)))] (RS4 s ls k1 D1)
  |.pa=>∀a:Nat,LL a83 0 [(0,some rf),(2,some Z0),(3,some (N a)),(4,some (slO (Fw ls acc)))] (RS4 s ls k D) (.exit 0) [(0,some rf),(2,some Z0),(3,some (N a)),(4,some (slO (Fw ls v.2)))] (RS4 s ls k1 D1)
 |.bk,k,D,v,k1,D1=>E 85 [rf] (RS4 s ls k D) (trR ls v.1).pv (RS4 s ls k1 D1)
 |.sts acc,k,D,v,k1,D1=>acc.length+n≤IM→∀a:Nat,
   LL a85 0 [(0,some rf),(2,some Z0),(3,some (N a)),(4,some (slO (Fw ls acc)))] (RS4 s ls k D) (.exit 0) [(0,some rf),(2,some Z0),(3,some (N a)),(4,some (slO (Fw ls v.2)))] (RS4 s ls k1 D1)
 |.st,k,D,v,k1,D1=>E 43 [rf] (RS4 s ls k D) (trR ls v.1).pv (RS4 s ls k1 D1)
 |.br,k,D,v,k1,D1=>[wIf].contains (wAt s ls k).2=true→E 90 [rf] (RS4 s ls k D) (trR ls v.1).pv (RS4 s ls k1 D1)
 |.sk f,k,D,_,k1,D1=>LL a95 0 [(0,some rf),(2,some Z0),(3,some (N f))] (RS4 s ls k D) (.exit 0) [(0,some rf),(2,some Z0),(3,some (N f))] (RS4 s ls k1 D1)
 |.sp,k,D,_,k1,D1=>∀(a:Nat) (us:List Tr),
   LL a14 1 [(0,some (.str s)),(2,some Z0),(5,some rf),(6,some (slO us)),(7,some (N a))] (RS4 s ls k D) (.exit 3) [(0,some (.str s)),(2,some Z0),(5,some rf),(6,some (slO us)),(7,some (N a))] (RS4 s ls k1 D1)
 |.pg acc,k,D,v,k1,D1=>acc.length+n≤IM→
   LL a14 0 [(0,some (.str s)),(2,some Z0),(5,some rf),(6,some (slO (Fw ls acc)))] (RS4 s ls k D) (.exit 0) [(0,some (.str s)),(2,some Z0),(5,some rf),(6,some (slO (Fw ls v.2)))] (RS4 s ls k1 D1)
def OkR(s:List UInt8)(ls:List Tk)(m:Nat)(n:Nat)(c:NT→Nat→List AD→K4):Prop:=
 OkI m c∧∀x k D v k1 D1,c x k D=some (v,k1,D1)→k≤m→Dok k D→ER s ls n x k D v k1 D1
section
variable{s:List UInt8}{ls:List Tk}{m n:Nat}{k f:Nat}{D:List AD}{c:NT→Nat→List AD→K4}{r:Rs×Nat×List AD}{p q:Pg}
theorem vex(hc:OkR s ls m n c)(L:Nat)(hL:L=1∨L=2∨L=3∨L=5∨L=6∨L=7){g:AT→Pg}(h:G4 s ls m c r (Pg.cl (.ex L) g) k D):
  ∃x k1 D1,k≤k1∧E 41 [rf,N L] (RS4 s ls k D) (trR ls x).pv (RS4 s ls k1 D1)∧G4 s ls m c r (g x) k1 D1:=by
 obtain⟨v,k1,D1,h1,h2,h3⟩:=h.cl hc.1;exact⟨v.1,k1,D1,h2,hc.2 _ _ _ _ _ _ h1 h.le h.ok hL,h3⟩
theorem ve1(hc:OkR s ls m n c){g:AT→Pg}(h:G4 s ls m c r (Pg.cl (.ex 1) g) k D):
  ∃x k1 D1,k≤k1∧E 41 [rf,I 1] (RS4 s ls k D) (trR ls x).pv (RS4 s ls k1 D1)∧G4 s ls m c r (g x) k1 D1:=vex hc 1 (by simp) h
theorem vbk(hc:OkR s ls m n c){g:AT→Pg}(h:G4 s ls m c r (Pg.cl .bk g) k D):
  ∃x k1 D1,k≤k1∧E 85 [rf] (RS4 s ls k D) (trR ls x).pv (RS4 s ls k1 D1)∧G4 s ls m c r (g x) k1 D1:=by
 obtain⟨v,k1,D1,h1,h2,h3⟩:=h.cl hc.1;exact⟨v.1,k1,D1,h2,hc.2 _ _ _ _ _ _ h1 h.le h.ok,h3⟩
theorem yY(hc:OkR s ls m n c)(hn:n+1≤IM){g:List AT→Pg}(h:G4 s ls m c r (Pp .ex g) k D):
  ∃U l k1 D1 k2 D2,k≤k1∧k1≤k2∧l≠[]∧E 41 [rf,I 1] (RS4 s ls k D) (trR ls U).pv (RS4 s ls k1 D1)∧
   ((∀a:Nat,LL a88 0 [(0,some rf),(2,some Z0),(3,some (N a)),(6,some (slO (Fw ls [U])))] (RS4 s ls k1 D1) (.exit 1) [(0,some rf),(2,some Z0),(3,some (N a)),(6,some (slO (Fw ls l)))] (RS4 s ls k2 D2))∧
    LL a93 0 [(0,some rf),(3,some (slO (Fw ls [U])))] (RS4 s ls k1 D1) (.exit 0) [(0,some rf),(3,some (slO (Fw ls l)))] (RS4 s ls k2 D2))∧G4 s ls m c r (g l) k2 D2:=by
 obtain⟨x,k1,D1,l1,a1,h⟩:=ve1 hc (g:=fun x=>.call (.tl .ex [x]) fun r=>g r.2) h
 obtain⟨v,k2,D2,h1,h2,h3⟩:=h.call hc.1;obtain⟨b1,b2⟩:=hc.2 _ _ _ _ _ _ h1 h.le h.ok (by simp) (by simp;omega)
 exact⟨x,v.2,k1,D1,k2,D2,l1,h2,b1,a1,b2,h3⟩
theorem yZ(H:CG s ls m)(hc:OkR s ls m n c)(hn:n+1≤IM){g:List AT→Pg}(h:G4 s ls m c r (Uy g) k D):
  ∃l k1 D1,k≤k1∧E 93 [rf] (RS4 s ls k D) (.slice false 5 (Tr.pvs (Fw ls l))) (RS4 s ls k1 D1)∧G4 s ls m c r (g l) k1 D1:=by
 obtain⟨a1,h⟩:=VD H h;have hk1:=h.le;rcases h.ifW with⟨hb,h⟩ | ⟨hb,h⟩
 ·obtain⟨k2,D2,b,l2,a3,h⟩:=vxp H [41] h;exact⟨[],k2,D2,by omega,AJN a1 (EA H hk1 [41] hb) a3,h⟩
 ·obtain⟨U,l,k2,D2,k3,D3,l2,l3,hl,a3,a4,h⟩:=yY hc hn h;obtain⟨k4,D4,b,l4,a5,h⟩:=vxp H [41] h;exact⟨l,k4,D4,by omega,AJM a1 (EA H hk1 [41] hb) a3 a4.2 a5,h⟩
theorem nu(H:CG s ls m)(hc:OkR s ls m n c){g:AT→Pg}(h:G4 s ls m c r (Ow g) k D):
  ∃x k1 D1,k≤k1∧E 94 [rf] (RS4 s ls k D) (trR ls x).pv (RS4 s ls k1 D1)∧G4 s ls m c r (g x) k1 D1:=by
 obtain⟨v,k1,D1,l1,a1,h⟩:=AZE H h.mrk;rcases vac H [91] h with⟨a2,h,_⟩ | ⟨a2,h,_⟩
 ·obtain⟨y,k2,D2,l2,a3,h⟩:=ve1 hc h;obtain⟨k3,D3,b,l3,a4,h⟩:=vxp H [93] h;exact⟨_,_,_,by omega,AJL ldK a1 a2 a3 a4 (Qs H (by omega) h.le 21 [] false [_,_]),h.bd⟩
 ·rcases vac H [46] h with⟨a3,h,_⟩ | ⟨a3,h,_⟩
  ·obtain⟨x,k2,D2,l2,a4,h⟩:=vnm H h;exact⟨_,_,_,by omega,AJK ldK a1 a2 a3 a4 (Qs H (by omega) h.le 22 x false [_]),h.bd⟩
  ·exact⟨_,_,_,by omega,AJJ ldK a1 a2 a3,h⟩
theorem uI(H:CG s ls m)(hc:OkR s ls m n c)(hn:n+1≤IM){g:AT→Pg}(h:G4 s ls m c r (O5 g) k D):
  ∃x k1 D1,k≤k1∧E 34 [rf] (RS4 s ls k D) (trR ls x).pv (RS4 s ls k1 D1)∧G4 s ls m c r (g x) k1 D1:=by
 obtain⟨a1,h⟩:=VD H h.mrk;obtain⟨x,k1,D1,l1,a2,h⟩:=vnm H h;obtain⟨k2,D2,b,l2,a3,h⟩:=vxp H [123] h;obtain⟨U,k3,D3,l3,a4,h⟩:=nA (g:=fun x=>.call (.tl .fd [x]) fun r=>_) H h
 obtain⟨v,k4,D4,h1,l4,h3⟩:=h.call hc.1;obtain⟨b1,b2⟩:=hc.2 _ _ _ _ _ _ h1 h.le h.ok (by simp) (by simp;omega)
 obtain⟨k5,D5,b,l5,a5,h⟩:=vxp H [125] h3;exact⟨_,_,_,by omega,r27 ldK a1 a2 a3 a4 (b2 k x) a5 (Qs H (by omega) h.le 3 x false v.2 b1),h.bd⟩
theorem uJ(H:CG s ls m)(hc:OkR s ls m n c)(hn:n+1≤IM){g:AT→Pg}(h:G4 s ls m c r (Pb g) k D):
  ∃x k1 D1,k≤k1∧E 83 [rf] (RS4 s ls k D) (trR ls x).pv (RS4 s ls k1 D1)∧G4 s ls m c r (g x) k1 D1:=by
 obtain⟨k1,D1,b,l1,a1,h⟩:=vxp H [40] h.mrk;have hk1:=h.le;rcases h.ifW with⟨hb,h⟩ | ⟨hb,h⟩
 ·obtain⟨k2,D2,b,l2,a2,h⟩:=vxp H [41] h;exact⟨_,_,_,by omega,AKS ldK a1 (EA H hk1 [41] hb) a2 (AWM H (by omega) h.le 6 []),h.bd⟩
 ·obtain⟨U,k3,D3,l3,a4,h⟩:=ny (g:=fun x=>.call (.tl .pa [x]) fun r=>_) H h
  obtain⟨v,k4,D4,h1,l4,h3⟩:=h.call hc.1;obtain⟨b1,b2⟩:=hc.2 _ _ _ _ _ _ h1 h.le h.ok (by simp) (by simp;omega)
  obtain⟨k5,D5,b,l5,a5,h⟩:=vxp H [41] h3;exact⟨_,_,_,by omega,AKR ldK a1 (EA H hk1 [41] hb) a4 (b2 k) a5 (Qs H (by omega) h.le 6 [] true v.2 b1),h.bd⟩
theorem AZF(H:CG s ls m)(hc:OkR s ls m n c)(hn:n+1≤IM){g:AT→Pg}(h:G4 s ls m c r (aZ g) k D):
  ∃x k1 D1,k≤k1∧E 35 [rf] (RS4 s ls k D) (trR ls x).pv (RS4 s ls k1 D1)∧G4 s ls m c r (g x) k1 D1:=by
 obtain⟨a1,h⟩:=VD H h.mrk;obtain⟨x,k1,D1,l1,a2,h⟩:=vnm H h;obtain⟨a,k2,D2,l2,a3,h⟩:=uJ H hc hn h;obtain⟨t,k3,D3,l3,a4,h⟩:=vwr H h;obtain⟨b,k4,D4,l4,a5,h⟩:=vbk hc h;exact⟨_,_,_,by omega,r28 ldK a1 a2 a3 a4 a5 (Qs H (by omega) h.le 5 x false [_,_,_]),h.bd⟩
theorem dZ(H:CG s ls m)(hf:f≤k){kd:Nat}{tx:List UInt8}(h:G4 s ls m c r (Pg.nod kd tx f []) k D)(hb:kdE kd=false:=by rfl):∃x,r=((x,[]),k,D)∧E 38 [rf,N f,N kd,.str tx,.nils] (RS4 s ls k D) (trR ls x).pv (RS4 s ls k D):=
 ⟨_,h.bd.ret,MJ H hf h.le kd tx true (by rw[hb];rfl)⟩
theorem dY(H:CG s ls m)(hf:f≤k){kd:Nat}{tx:List UInt8}{us:List AT}(h:G4 s ls m c r (Pg.nod kd tx f us) k D)(hb:kdE kd=true:=by rfl):∃x,r=((x,[]),k,D)∧E 38 [rf,N f,N kd,.str tx,.slice false 5 (Tr.pvs (Fw ls us))] (RS4 s ls k D) (trR ls x).pv (RS4 s ls k D):=by
 refine⟨_,h.bd.ret,?_⟩
 cases us with
 |nil=>exact AWM H hf h.le kd tx hb
 |cons u us=>exact Qs H hf h.le kd tx true (u::us)
theorem Im(H:CG s ls m)(hf:f≤k){kd:Nat}{tx:List UInt8}{us:List AT}(hu:us≠[])(h:G4 s ls m c r (Pg.nod kd tx f us) k D):
  ∃x,r=((x,[]),k,D)∧E 38 [rf,N f,N kd,.str tx,.slice false 5 (Tr.pvs (Fw ls us))] (RS4 s ls k D) (trR ls x).pv (RS4 s ls k D):=
 ⟨_,h.bd.ret,Qs H hf h.le kd tx true us hu⟩
theorem v72(H:CG s ls m)(hk:k≤m)(L:Nat)(hL:L=1∨L=2∨L=4∨L=5∨L=6){b:Bool}(hb:(opL L).contains (wAt s ls k).2=b):E 89 [rf,N L] (RS4 s ls k D) (.bool b) (RS4 s ls k D):=by
 have a1:=u25 (D:=D) H hk;have a2:=u56 (D:=D) H hk;have a3:=tq (opL L) (wAt s ls k).2 (by rcases hL with rfl | rfl | rfl | rfl | rfl<;>decide)
 rw[hb] at a3;by_cases h5:(wAt s ls k).1=5
 ·have:=H5 H hk h5;subst this;rw[H.end'] at hb;have:b=false:=by rw[←hb];rcases hL with rfl | rfl | rfl | rfl | rfl<;>rfl
  rw[this];rcases hL with rfl | rfl | rfl | rfl | rfl
  ·exact wN a1 (by omega)
  ·exact wL a1 (by omega)
  ·exact wJ a1 (by omega)
  ·exact wH a1 (by omega)
  ·exact wF a1 (by omega)
 ·rcases hL with rfl | rfl | rfl | rfl | rfl
  ·exact wO a1 (by omega) a2 a3
  ·exact wM a1 (by omega) a2 a3
  ·exact wK a1 (by omega) a2 a3
  ·exact wI a1 (by omega) a2 a3
  ·exact wG a1 (by omega) a2 a3
theorem Bj5(H:CG s ls m)(hc:OkR s ls m n c)(h:G4 s ls m c r q9 k D):E 41 [rf,I 4] (RS4 s ls k D) (trR ls r.1.1).pv (RS4 s ls r.2.1 r.2.2):=by
 obtain⟨x,k1,D1,l1,a1,h⟩:=vex hc 5 (by simp) h.mrk
 have hk1:=h.le;rcases h.ifW with⟨hw,h⟩ | ⟨hw,h⟩
 ·obtain⟨a2,h⟩:=vrd H h;obtain⟨y,k2,D2,l2,a3,h⟩:=vex hc 5 (by simp) h
  obtain⟨x9,e9,n9⟩:=Im H (f:=k) (by omega) (by simp) h
  rw[e9];exact wW ldK a1 (UQ (v72 H hk1 4 (by simp) hw) a2 a3 n9)
 ·have e:=h.ret;rw[e];exact wX ldK a1 (UO (v72 H hk1 4 (by simp) hw))
theorem v85(H:CG s ls m)(hk:k<m):E 92 [rf] (RS4 s ls k D) (.str (wAt s ls (k+1)).2) (RS4 s ls k D):=by
 obtain⟨t,ht⟩:=H.at (k:=k+1) (by omega)
 have:=H.big;have:=H.len;rw[Jw ht];exact AJO (by omega) (by omega) ht (u65 H ht)
theorem AZG(H:CG s ls m)(hc:OkR s ls m n c)(hn:n+1≤IM)(h:G4 s ls m c r bi k D):E 88 [rf] (RS4 s ls k D) (trR ls r.1.1).pv (RS4 s ls r.2.1 r.2.2):=by
 have hk:=h.le;have a1:=u25 (D:=D) H hk;rcases h.mrk.ifK with⟨k2,h⟩ | ⟨k2,h⟩
 ·obtain⟨a2,h⟩:=vrd H h;obtain⟨x9,e9,n9⟩:=dZ H (f:=k) (by omega) h
  rw[e9];exact AKJ ldK a1 (by omega) a2 (e120 _ (Wy H k)) n9
 rcases h.ifW with⟨hb,h⟩ | ⟨hb,h⟩
 ·obtain⟨a2,h⟩:=vrd H h;obtain⟨x9,e9,n9⟩:=dZ H (f:=k) (by omega) h
  rw[e9];cases hi:[Iy].contains (wAt s ls k).2 with
  |true=>exact AKI ldK a1 (by omega) (EA H hk Iy hi) a2 n9
  |false=>exact AKH ldK a1 (by omega) (EA H hk Iy hi) (EA H hk GQ (rZ hb hi)) a2 n9
 obtain⟨b1,b2⟩:=YI hb;have a2:=EA (D:=D) H hk Iy b1;have a3:=EA (D:=D) H hk GQ b2;have h:=h.look;by_cases hk0:(wAt s ls k).1=0
 ·have hlt:=H.lt hk (by omega)
  have a5:=v85 (D:=D) H hlt;by_cases hp:(wAt s ls (k+1)).2=[40]
  ·rw[if_pos ⟨hk0,hp⟩] at h;obtain⟨a6,h⟩:=vrd H h;obtain⟨l,k3,D3,l3,a7,h⟩:=yZ H hc hn h;obtain⟨x9,e9,n9⟩:=dY H (f:=k) (by omega) h
   rw[e9];exact AKG ldK a1 (by omega) a2 a3 (by omega) a5 hp a6 a7 n9
  ·rw[if_neg (fun x=>hp x.2),if_pos hk0] at h
   obtain⟨x,k3,D3,l3,a6,h⟩:=nu H hc h;have e:=h.ret;rw[e];exact AKF ldK a1 (by omega) a2 a3 (by omega) a5 hp a6
 ·rw[if_neg (fun x=>hk0 x.1),if_neg hk0] at h
  rcases vac H [91] h with⟨a5,h,_⟩ | ⟨a5,h,_⟩
  ·obtain⟨U,l,k2,D2,k3,D3,l2,l3,hl,a6,a7,h⟩:=yY hc hn h;obtain⟨k4,D4,b,l4,a8,h⟩:=vxp H [93] h;obtain⟨x9,e9,n9⟩:=Im H (f:=k) (by omega) hl h
   rw[e9];exact AKE ldK a1 (by omega) a2 a3 (by omega) a5 a6 (a7.1 k) a8 n9
  ·rcases vac H Oi h with⟨a6,h,_⟩ | ⟨a6,h,_⟩
   ·obtain⟨k3,D3,b,l3,a7,h⟩:=vxp H [40] h;obtain⟨v,k4,D4,l4,a8,h⟩:=AZE H h;obtain⟨k5,D5,b,l5,a9,h⟩:=vxp H [41] h;obtain⟨x9,e9,n9⟩:=Im H (f:=k) (by omega) (by simp) h
    rw[e9];exact AKD ldK a1 (by omega) a2 a3 (by omega) a5 a6 a7 a8 a9 n9
   ·rcases vac H [40] h with⟨a7,h,_⟩ | ⟨a7,h,_⟩
    ·obtain⟨x,k3,D3,l3,a8,h⟩:=ve1 hc h;obtain⟨k4,D4,b,l4,a9,h⟩:=vxp H [41] h;have e:=h.ret;rw[e];exact AKC ldK a1 (by omega) a2 a3 (by omega) a5 a6 a7 a8 a9
    ·obtain⟨a8,h⟩:=v29 H h;have hle:=h.le;have e:=h.mrk.bd.ret;rw[e];exact AKB ldK a1 (by omega) a2 a3 (by omega) a5 a6 a7 a8 (MJ H (Ag _) hle 1 [] false)
end
end Go.Abs.Z
