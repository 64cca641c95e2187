/- A part of the proof: WR D19 D20 D21. -/
import Derived.Test.YtgkkkgbknfhbaaaGreatDoorKbf
import Derived.Test.YtgkkkgbknfhbaaaGreatDoorKaz
import Derived.Test.YtgkkkgbknfhbaaaGreatDoorKbc

set_option linter.all false
namespace Go.Abs.Z
noncomputable section
open PV
open Go.Proofs Go.RowKit
variable{s J tx w s2:List UInt8}{ls aa:List Tk}{k l c fi m1 m2:Nat}{es W:List PV}{t1:Tk}{ab:Dg}{kd:Int}{us G:List Tr}{r z U U4 U5:Tr}{e:CE}{K:FF}{Y σ D x F A O σ6 σ7 σ8 σ9:Sto}{c2:UInt8}{b1 b2:Bool}
def R65:Rn 90 a90:=rn
def r65{t:Tk}(a:BM (.ssl true true) [.str s,N t.a,N t.e] (.str J)):EvE 90 [.str s,t.pv] (.str J):=
 rule R65 [sp 7 a]
def R25:Rn 37 a37:=rn
def r25(a:ls[k]?=some t1):E 37 [r0] [qc s ls k l es] (N t1.k) [qc s ls k l es]:=
 rule R25 [sp 9 (Cs (o:=false) (s:=4) k a)]
def R56:Rn 81 a81:=rn
def r56(b:ls[k]?=some t1)(a:EvE 90 [.str s,t1.pv] (.str J)):Hs 81 [qc s ls k l es] J [qc s ls k l es]:=
 rule R56 [sp 13 (Cs (o:=false) (s:=4) k b),st 1 (oCS [qc s ls k l es] a)]
def R85:Rn 106 a106:=rn
def BkP(a:k<2000000000)(d:¬(((k+1):Nat):Int)>=(ls.length:Int))(f:ls[k+1]?=some t1)(b:EvE 90 [.str s,t1.pv] (.str J)):Hs 106 [qc s ls k l es] J [qc s ls k l es]:=
 rule R85 [sp 5 (AO k 1 a),sp 4 (ED false 4 ls),sp 0 (Im .i64 d),sp 13 (AO k 1 a),sp 0 (Cs (o:=false) (s:=4) (k+1) f),st 1 (oCS [qc s ls k l es] b)]
def R30:Rn 42 a42:=rn
def r30(a:Hs 81 [qc s ls k l es] J [qc s ls k l es])(d:ls[k]?=some t1)(b:k<2000000000):E 42 [r0] [qc s ls k l es] (.str J) [qc s ls (k+1) t1.e es]:=
 rule R30 [st 2 (oW a),sp 11 (Cs (o:=false) (s:=4) k d),sp 6 (AO k 1 b),st 2 (CqD:Bt pur run (.w (.st 1)) [.ref 0 3,N t1.e] [qc s ls k l es] [] [qc s ls k t1.e es]),st 2 (CqE:Bt pur run (.w (.st 1)) [.ref 0 2,N (k+1)] [qc s ls k t1.e es] [] [qc s ls (k+1) t1.e es])]
def R29:Rn 41 a41:=rn
section
variable(g1:ls[k]?=some t1)
include g1
def AjL:List Stp:=[sp 8 (Cs (o:=false) (s:=4) k g1),st 6 (QS [qc s ls k l es] ldQ),sp 0 (fG 5 es)]
theorem BwX(b:¬(es.length:Int) > 0)(a:es.length+1<=Bo):E 41 [r0,N c,.str tx] [qc s ls k l es] (.tuple []) [qc s ls k l (es++[.agg [N c,N t1.a,N t1.e,.str tx,.nils]])]:=
 rule R29 (AjL (es:=es) (l:=l) (s:=s) g1++[sp 2 (Cz .i64 b),st 19 (BZE:Bt pur run (.w .ldo) [.ref 0 4] [qc s ls k l es] [some (BI 5 es)] [qd s ls k l es]),st 8 (aQ 5 (.agg [N c,N t1.a,N t1.e,.str tx,.nils]) [qd s ls k l es] a),st 2 (BjF:Bt pur run (.w .sto) [.ref 0 4,BI 5 (es++[.agg [N c,N t1.a,N t1.e,.str tx,.nils]])] [qd s ls k l es] [some (Ci 5 (es++[.agg [N c,N t1.a,N t1.e,.str tx,.nils]]))] [qc s ls k l (es++[.agg [N c,N t1.a,N t1.e,.str tx,.nils]])])])
section
variable(T:(es.length:Int) > 0)(l1:1<=es.length)(l2:es.length<2000000000)(g2:es[es.length - 1]?=some ab.pv)
include T l1 l2 g2
def AjK:List Stp:=AjL (es:=es) (l:=l) (s:=s) g1++[sp 2 (CF .i64 T),sg 4 (QS [qc s ls k l es] ldQ),sq 1 (Fb es.length 1 l1 l2),sq 0 (xG (s:=5) (es.length - 1) g2)]
theorem BwW(c2:(ab.a:Int)=(t1.a:Int)):E 41 [r0,N c,.str tx] [qc s ls k l es] (.tuple []) [qc s ls k l es]:=
 rule R29 (AjK (l:=l) (s:=s) g1 T l1 l2 g2++[sq 4 (Bz .i64 c2)])
theorem BwV(c2:(ab.a:Int)≠(t1.a:Int))(a:es.length+1<=Bo):E 41 [r0,N c,.str tx] [qc s ls k l es] (.tuple []) [qc s ls k l (es++[.agg [N c,N t1.a,N t1.e,.str tx,.nils]])]:=
 rule R29 (AjK (l:=l) (s:=s) g1 T l1 l2 g2++[sq 4 (Bb .i64 c2),st 6 (BZE:Bt pur run (.w .ldo) [.ref 0 4] [qc s ls k l es] [some (BI 5 es)] [qd s ls k l es]),st 8 (aQ 5 (.agg [N c,N t1.a,N t1.e,.str tx,.nils]) [qd s ls k l es] a),st 2 (BjF:Bt pur run (.w .sto) [.ref 0 4,BI 5 (es++[.agg [N c,N t1.a,N t1.e,.str tx,.nils]])] [qd s ls k l es] [some (Ci 5 (es++[.agg [N c,N t1.a,N t1.e,.str tx,.nils]]))] [qc s ls k l (es++[.agg [N c,N t1.a,N t1.e,.str tx,.nils]])])])
end
end
def R31:Rn 43 a43:=rn
def AKQ(b:(fi:Int) < (k:Int))(a:ls[fi]?=some t1):E 43 [r0,N fi,I kd,.str tx,.nils] [qc s ls k l es] (.agg [I kd,.str tx,N t1.a,N l,.nils]) [qc s ls k l es]:=
 rule R31 [sp 20 (AZ .i64 b),sp 6 (Cs (o:=false) (s:=4) fi a)]
def AKP(a:¬(fi:Int) < (k:Int)):E 43 [r0,N fi,I kd,.str tx,.nils] [qc s ls k l es] (.agg [I kd,.str tx,N l,N l,.nils]) [qc s ls k l es]:=
 rule R31 [sp 20 (Bh .i64 a)]
def BwU(b:(fi:Int) < (k:Int))(a:ls[fi]?=some t1)(c2:¬(us.length:Int) > 0):E 43 [r0,N fi,I kd,.str tx,slF 5 (Tr.pvs us)] [qc s ls k l es] (.agg [I kd,.str tx,N t1.a,N l,slF 5 (Tr.pvs us)]) [qc s ls k l es]:=
 rule R31 [sp 20 (AZ .i64 b),sp 6 (Cs (o:=false) (s:=4) fi a),sp 5 (IC false 5 us),sp 0 (Cz .i64 c2)]
def BwT(a:¬(fi:Int) < (k:Int))(c2:¬(us.length:Int) > 0):E 43 [r0,N fi,I kd,.str tx,slF 5 (Tr.pvs us)] [qc s ls k l es] (.agg [I kd,.str tx,N l,N l,slF 5 (Tr.pvs us)]) [qc s ls k l es]:=
 rule R31 [sp 20 (Bh .i64 a),sp 2 (IC false 5 us),sp 0 (Cz .i64 c2)]
section
variable(T:(fi:Int) < (k:Int))(g1:ls[fi]?=some t1)
include T g1
theorem BwS(c2:(us.length:Int) > 0)(d:us[0]?=some r)(a:r.st<(t1.a:Int))(b:us[0]?=some z):E 43 [r0,N fi,I kd,.str tx,slF 5 (Tr.pvs us)] [qc s ls k l es] (.agg [I kd,.str tx,I z.st,N l,slF 5 (Tr.pvs us)]) [qc s ls k l es]:=
 rule R31 [sp 20 (AZ .i64 T),sp 6 (Cs (o:=false) (s:=4) fi g1),sp 5 (IC false 5 us),sp 0 (CF .i64 c2),sq 2 (Jf (o:=false) (s:=5) 0 d),sq 0 (DD r),sq 3 (AZ .i64 a),sp 3 (Jf (o:=false) (s:=5) 0 b),sp 0 (DD z)]
theorem BwR(c2:(us.length:Int) > 0)(b:us[0]?=some r)(a:¬r.st<(t1.a:Int)):E 43 [r0,N fi,I kd,.str tx,slF 5 (Tr.pvs us)] [qc s ls k l es] (.agg [I kd,.str tx,N t1.a,N l,slF 5 (Tr.pvs us)]) [qc s ls k l es]:=
 rule R31 [sp 20 (AZ .i64 T),sp 6 (Cs (o:=false) (s:=4) fi g1),sp 5 (IC false 5 us),sp 0 (CF .i64 c2),sq 2 (Jf (o:=false) (s:=5) 0 b),sq 0 (DD r),sq 3 (Bh .i64 a)]
end
def BwQ(b:¬(fi:Int) < (k:Int))(c2:(us.length:Int) > 0)(a:us[0]?=some r)(f:r.st<(l:Int))(d:us[0]?=some z):E 43 [r0,N fi,I kd,.str tx,slF 5 (Tr.pvs us)] [qc s ls k l es] (.agg [I kd,.str tx,I z.st,N l,slF 5 (Tr.pvs us)]) [qc s ls k l es]:=
 rule R31 [sp 20 (Bh .i64 b),sp 2 (IC false 5 us),sp 0 (CF .i64 c2),sq 2 (Jf (o:=false) (s:=5) 0 a),sq 0 (DD r),sq 3 (AZ .i64 f),sp 3 (Jf (o:=false) (s:=5) 0 d),sp 0 (DD z)]
def BwP(b:¬(fi:Int) < (k:Int))(c2:(us.length:Int) > 0)(a:us[0]?=some r)(d:¬r.st<(l:Int)):E 43 [r0,N fi,I kd,.str tx,slF 5 (Tr.pvs us)] [qc s ls k l es] (.agg [I kd,.str tx,N l,N l,slF 5 (Tr.pvs us)]) [qc s ls k l es]:=
 rule R31 [sp 20 (Bh .i64 b),sp 2 (IC false 5 us),sp 0 (CF .i64 c2),sq 2 (Jf (o:=false) (s:=5) 0 a),sq 0 (DD r),sq 3 (Bh .i64 d)]
def BYQ:Rn 152 a152:=rn
section
variable{ws:List (List UInt8)}
def AWX(a:LL a152 0 [(0,slice false 1 (ws.map PV.str)),(1,str w),(5,I 0)] [] (.exit 0) [] []):EvE 152 [slF 1 (ws.map PV.str),.str w] (.bool false):=
 rule BYQ [sl 2 [0,1,5] a]
def AWW(a:LL a152 0 [(0,slice false 1 (ws.map PV.str)),(1,str w),(5,I 0)] [] .ret [(4,bool true)] []):EvE 152 [slF 1 (ws.map PV.str),.str w] (.bool true):=
 rule BYQ [sl 2 [0,1,5] a]
def Zz(a:¬(m1:Int) < (ws.length:Int)):LL a152 0 [(0,slice false 1 (ws.map PV.str)),(1,str w),(5,N m1)] [] (.exit 0) [] []:=
 Bw [] [sp 2 (Pz false 1 ws),sp 0 (Bh .i64 a)]
section
variable(T:(m1:Int) < (ws.length:Int))(g1:ws[m1]?=some J)
include T g1
def AjJ:List Stp:=[sp 2 (Pz false 1 ws),sp 0 (AZ .i64 T),sp 3 (T9 (o:=false) (s:=1) m1 g1)]
theorem Zy(c2:J=w):LL a152 0 [(0,slice false 1 (ws.map PV.str)),(1,str w),(5,N m1)] [] .ret [(4,bool true)] []:=
 Bw [4] (AjJ T g1++[sp 2 (Jb c2)])
theorem Oe(c2:J≠w)(a:m1<2000000000)(b:LL a152 0 [(0,slice false 1 (ws.map PV.str)),(1,str w),(5,N (m1+1))] [] e K Y):LL a152 0 [(0,slice false 1 (ws.map PV.str)),(1,str w),(5,N m1)] [] e K Y:=
 BC [0,1,5] (AjJ T g1++[sp 2 (II c2),sp 2 (AO m1 1 a)]) b
end
end
def R120:Rn 150 kM:=rn
def r120(a:LL kM 0 [(0,str w)] [] (.exit 0) [(0,str J)] []):EvE 150 [.str w] (.str J):=
 rule R120 [sl 1 [0] a]
def Mo(a:¬(J.length:Int) > 1):LL kM 0 [(0,str J)] [] (.exit 0) [(0,str J)] []:=
 Bw [0] [sp 2 (Cz .i64 a)]
section
variable(T:(J.length:Int) > 1)(g1:(J:List UInt8)[0]?=some c2)
include T g1
theorem V9(a:(c2.toNat:Int)=48)(b:BM (.ssl true false) [.str J,I 1] (.str s2))(d:LL kM 0 [(0,str s2)] [] e K Y):LL kM 0 [(0,str J)] [] e K Y:=
 BC [0] [sp 2 (CF .i64 T),sq 2 (Bi _ 0 _ g1),sq 0 (Bz .u8 a),sp 3 b] d
theorem Zx(a:(c2.toNat:Int)≠48):LL kM 0 [(0,str J)] [] (.exit 0) [(0,str J)] []:=
 Bw [0] [sp 2 (CF .i64 T),sq 2 (Bi _ 0 _ g1),sq 0 (Bb .u8 a)]
end
def R72:Rn 103 a103:=rn
section
variable(H:Hc σ m1)
include H
theorem AqW(d:(m1:Int)≠5)(a:Hs 81 σ J σ)(b:EvE 152 [slF 1 [.str [111,114]],.str J] (.bool b1)):E 103 [r0,I 1] σ (.bool b1) σ:=
 rule R72 [st 2 (oW H),sp 0 (C8 .i64 d),sg 2 (oCS σ Bq6),sg 1 (oW a),sg 0 (oCS σ b)]
theorem AqV(a:(m1:Int)=5):E 103 [r0,I 1] σ (.bool false) σ:=
 rule R72 [st 2 (oW H),sp 0 (Dr .i64 a)]
theorem AqU(d:(m1:Int)≠5)(a:Hs 81 σ J σ)(b:EvE 152 [slF 1 [.str [97,110,100]],.str J] (.bool b1)):E 103 [r0,I 2] σ (.bool b1) σ:=
 rule R72 [st 2 (oW H),sp 0 (C8 .i64 d),sg 2 (oCS σ Bq5),sg 1 (oW a),sg 0 (oCS σ b)]
theorem AqT(a:(m1:Int)=5):E 103 [r0,I 2] σ (.bool false) σ:=
 rule R72 [st 2 (oW H),sp 0 (Dr .i64 a)]
theorem AqS(d:(m1:Int)≠5)(a:Hs 81 σ J σ)(b:EvE 152 [slF 1 [.str [61,61],.str [33,61],.str [60],.str [60,61],.str [62],.str [62,61]],.str J] (.bool b1)):E 103 [r0,I 4] σ (.bool b1) σ:=
 rule R72 [st 2 (oW H),sp 0 (C8 .i64 d),sg 2 (oCS σ Bq4),sg 1 (oW a),sg 0 (oCS σ b)]
theorem AqR(a:(m1:Int)=5):E 103 [r0,I 4] σ (.bool false) σ:=
 rule R72 [st 2 (oW H),sp 0 (Dr .i64 a)]
theorem AqQ(d:(m1:Int)≠5)(a:Hs 81 σ J σ)(b:EvE 152 [slF 1 [.str [43],.str [45]],.str J] (.bool b1)):E 103 [r0,I 5] σ (.bool b1) σ:=
 rule R72 [st 2 (oW H),sp 0 (C8 .i64 d),sg 2 (oCS σ Bq3),sg 1 (oW a),sg 0 (oCS σ b)]
theorem AqP(a:(m1:Int)=5):E 103 [r0,I 5] σ (.bool false) σ:=
 rule R72 [st 2 (oW H),sp 0 (Dr .i64 a)]
theorem AqO(d:(m1:Int)≠5)(a:Hs 81 σ J σ)(b:EvE 152 [slF 1 [.str [42],.str [47],.str [37]],.str J] (.bool b1)):E 103 [r0,I 6] σ (.bool b1) σ:=
 rule R72 [st 2 (oW H),sp 0 (C8 .i64 d),sg 2 (oCS σ Bq2),sg 1 (oW a),sg 0 (oCS σ b)]
theorem AqN(a:(m1:Int)=5):E 103 [r0,I 6] σ (.bool false) σ:=
 rule R72 [st 2 (oW H),sp 0 (Dr .i64 a)]
end
def R26:Rn 38 a38:=rn
def BwZ(a:Hc σ m1)(d:(m1:Int)≠5)(b:Hs 81 σ J σ):E 38 [r0,.str w] σ (.bool (J==w)) σ:=
 rule R26 [st 2 (oW a),sp 0 (C8 .i64 d),sg 2 (oW b)]
def BwY(a:Hc σ m1)(b:(m1:Int)=5):Hb 38 w σ false σ:=
 rule R26 [st 2 (oW a),sp 0 (Dr .i64 b)]
def R60:Rn 85 a85:=rn
def BvV(a:Hb 38 w σ true σ)(b:Hs 42 σ J D):Hb 85 w σ true D:=
 rule R60 [st 3 (oW a),st 2 (oW b)]
def BvU(a:Hb 38 w σ false σ):Hb 85 w σ false σ:=
 rule R60 [st 3 (oW a)]
def R58:Rn 83 a83:=rn
def AkK(a:Hb 85 w σ true D):Hb 83 w σ true D:=
 rule R58 [st 3 (oW a)]
def AkJ(a:Hb 85 w σ false D)(b:E 41 [r0,I 4,.str w] D (.tuple []) x):Hb 83 w σ false x:=
 rule R58 [st 3 (oW a),st 3 (oW b)]
def R57:Rn 82 a82:=rn
def Bw0(a:Hc σ m1)(d:(m1:Int)=0)(b:Hs 42 σ J D):Hs 82 σ J D:=
 rule R57 [st 2 (oW a),sp 0 (Bz .i64 d),st 2 (oW b)]
def BvZ(a:Hc σ m1)(d:(m1:Int)≠0)(b:E 41 [r0,I 4,.str [110,97,109,101]] σ (.tuple []) D):Hs 82 σ [] D:=
 rule R57 [st 2 (oW a),sp 0 (Bb .i64 d),st 2 (oW b)]
def R84:Rn 105 a105:=rn
section
variable(H:Hc σ m1)
include H
theorem BkW(a:(m1:Int)=0):E 105 [r0] σ (.bool true) σ:=
 rule R84 [st 2 (oW H),sp 0 (Bz .i64 a)]
section
variable(T:(m1:Int)≠0)
include T
def WF:List Stp:=[st 2 (oW H),sp 0 (Bb .i64 T),sg 2 (oW H)]
theorem BkV(c2:(m1:Int)=2):E 105 [r0] σ (.bool true) σ:=
 rule R84 (WF H T++[sq 0 (Bz .i64 c2)])
theorem BkU(c2:(m1:Int)≠2)(a:Hb 38 [116,114,117,101] σ true σ):E 105 [r0] σ (.bool true) σ:=
 rule R84 (WF H T++[sq 0 (Bb .i64 c2),sg 3 (oW a)])
theorem BkT(c2:(m1:Int)≠2)(a:Hb 38 [116,114,117,101] σ false σ)(b:Hb 38 [102,97,108,115,101] σ true σ):E 105 [r0] σ (.bool true) σ:=
 rule R84 (WF H T++[sq 0 (Bb .i64 c2),sg 3 (oW a),sg 3 (oW b)])
theorem BkS(c2:(m1:Int)≠2)(a:Hb 38 [116,114,117,101] σ false σ)(b:Hb 38 [102,97,108,115,101] σ false σ)(d:Hb 38 [108,101,110] σ true σ):E 105 [r0] σ (.bool true) σ:=
 rule R84 (WF H T++[sq 0 (Bb .i64 c2),sg 3 (oW a),sg 3 (oW b),sg 3 (oW d)])
theorem BkR(c2:(m1:Int)≠2)(a:Hb 38 [116,114,117,101] σ false σ)(b:Hb 38 [102,97,108,115,101] σ false σ)(f:Hb 38 [108,101,110] σ false σ)(d:Hb 38 [40] σ true σ):E 105 [r0] σ (.bool true) σ:=
 rule R84 (WF H T++[sq 0 (Bb .i64 c2),sg 3 (oW a),sg 3 (oW b),sg 3 (oW f),sg 3 (oW d)])
theorem BkQ(c2:(m1:Int)≠2)(a:Hb 38 [116,114,117,101] σ false σ)(b:Hb 38 [102,97,108,115,101] σ false σ)(f:Hb 38 [108,101,110] σ false σ)(d:Hb 38 [40] σ false σ)(g:Hb 38 [91] σ b1 σ):E 105 [r0] σ (.bool b1) σ:=
 rule R84 (WF H T++[sq 0 (Bb .i64 c2),sg 3 (oW a),sg 3 (oW b),sg 3 (oW f),sg 3 (oW d),sg 3 (oW g)])
end
end
def Aj2:Rn 140 a140:=rn
section
variable(H:Hc σ m1)
include H
theorem AY1(a:(m1:Int)=5):E 140 [r0] σ (.bool true) σ:=
 rule Aj2 [st 2 (oW H),sp 0 (Bz .i64 a)]
section
variable(T:(m1:Int)≠5)
include T
theorem AY0(a:Hb 38 [125] σ true σ):E 140 [r0] σ (.bool true) σ:=
 rule Aj2 [st 2 (oW H),sp 0 (Bb .i64 T),sg 2 (oW a)]
theorem AWZ(a:Hb 38 [125] σ false σ)(b:Hb 38 [112,114,111,99] σ true σ):E 140 [r0] σ (.bool true) σ:=
 rule Aj2 [st 2 (oW H),sp 0 (Bb .i64 T),sg 2 (oW a),sg 3 (oW b)]
theorem AWY(a:Hb 38 [125] σ false σ)(b:Hb 38 [112,114,111,99] σ false σ)(d:Hb 38 [114,101,99,111,114,100] σ b1 σ):E 140 [r0] σ (.bool b1) σ:=
 rule Aj2 [st 2 (oW H),sp 0 (Bb .i64 T),sg 2 (oW a),sg 3 (oW b),sg 3 (oW d)]
end
end
def BYM:Rn 154 a154:=rn
def AWH(a:Hc σ m1)(d:(m1:Int)=1)(f:Hs 81 σ J σ)(b:EvE 152 [slF 1 [.str [118,97,114],.str [105,102],.str [119,104,105,108,101],.str [102,111,114],.str [114,101,116,117,114,110],.str [97,115,115,101,114,116]],.str J] (.bool b1)):E 154 [r0] σ (.bool b1) σ:=
 rule BYM [st 2 (oW a),sp 0 (Bz .i64 d),sg 3 (oW f),sg 0 (oC1 σ b)]
def AWG(a:Hc σ m1)(b:(m1:Int)≠1):E 154 [r0] σ (.bool false) σ:=
 rule BYM [st 2 (oW a),sp 0 (Bb .i64 b)]
def R121:Rn 151 a151:=rn
def r121(b:Hk σ m1)(a:Hs 82 σ J D)(d:Hn m1 20 J .nils D r):Ht 151 σ r D:=
 Br R121 [st 4 (QS σ b),st 2 (oW a),st 4 (oW d),st 0 (zl D r)] (rz 2 r)
def R87:Rn 108 a108:=rn
section
variable(M:Hk σ m1)(H:Ht 151 σ r D)
include M H
def rC:List Stp:=[st 4 (QS σ M),st 2 (oW H),sp 1 (BD r)]
theorem BkM(a:Hb 85 [91] D true x)(b:Hx 1 x z F)(d:Hb 83 [93] F b1 A)(f:Hn m1 21 [] (slF 5 [r.pv,z.pv]) A U):Ht 108 σ U A:=
 Br R87 (rC M H++[st 1 (oW a),st 3 (oW b),sp 1 (BD z),st 1 (oW d),st 2 (QS A (AL r)),st 0 (QS A (AL z)),st 0 (bz2 A r z),st 0 (wn f),st 0 (zl A U)]) (rz 2 U)
theorem BkL(a:Hb 85 [91] D false x)(b:Hb 85 [46] x true F)(d:Hs 82 F J A)(f:Hn m1 22 J (slF 5 [r.pv]) A z):Ht 108 σ z A:=
 Br R87 (rC M H++[st 1 (oW a),st 3 (oW b),st 3 (oW d),st 4 (QS A (AL r)),st 0 (bz1 A r),st 0 (wn f),st 0 (zl A z)]) (rz 2 z)
theorem BkK(a:Hb 85 [91] D false x)(b:Hb 85 [46] x false F):Ht 108 σ r F:=
 Br R87 (rC M H++[st 1 (oW a),st 3 (oW b),st 2 (QS F (AL r)),st 0 (zl F r)]) (rz 2 r)
end
def R59:Rn 84 a84:=rn
section
variable(M:Hk σ m1)(H:Hs 82 σ J D)(V:Hb 83 [58] D b1 x)(x2:Hk x m2)
include M H V x2
def rA:List Stp:=[st 4 (QS σ M),st 2 (oW H),st 2 (oW V),st 3 (QS x x2)]
theorem BvY(b:Hb 38 [105,110,116] x true x)(d:Hs 42 x s2 F)(a:Hn m2 9 s2 .nils F r)(f:Hn m1 4 J (slF 5 [r.pv]) F z):Ht 84 σ z F:=
 Br R59 (rA M H V x2++[st 2 (oW b),st 6 (oW d),st 4 (oW a),sp 1 (BD r),st 3 (QS F (AL r)),st 0 (bz1 F r),st 0 (wn f),st 0 (zl F z)]) (rz 2 z)
theorem BvX(b:Hb 38 [105,110,116] x false x)(d:Hb 38 [98,111,111,108] x true x)(g:Hs 42 x s2 F)(f:Hn m2 9 s2 .nils F r)(a:Hn m1 4 J (slF 5 [r.pv]) F z):Ht 84 σ z F:=
 Br R59 (rA M H V x2++[st 2 (oW b),sg 2 (oW d),st 3 (oW g),st 4 (oW f),sp 1 (BD r),st 3 (QS F (AL r)),st 0 (bz1 F r),st 0 (wn a),st 0 (zl F z)]) (rz 2 z)
theorem BvW(b:Hb 38 [105,110,116] x false x)(d:Hb 38 [98,111,111,108] x false x)(g:E 41 [r0,I 4,.str [116,121,112,101]] x (.tuple []) F)(f:Hn m2 1 [] .nils F r)(a:Hn m1 4 J (slF 5 [r.pv]) F z):Ht 84 σ z F:=
 Br R59 (rA M H V x2++[st 2 (oW b),sg 2 (oW d),st 3 (oW g),st 2 (oW f),sp 1 (BD r),st 3 (QS F (AL r)),st 0 (bz1 F r),st 0 (wn a),st 0 (zl F z)]) (rz 2 z)
end
def qo:Rn 139 a139:=rn
section
variable(M:Hk σ m1)
include M
theorem AY7(a:Hb 85 [98,111,111,108] σ true D)(b:Hn m1 9 [98,111,111,108] .nils D r):Ht 139 σ r D:=
 Br qo [st 4 (QS σ M),st 2 (oW a),st 4 (oW b),st 0 (zl D r)] (rz 2 r)
section
variable(H:Hb 85 [98,111,111,108] σ false D)
include H
theorem AY6(a:Hb 85 [105,110,116] D true x)(b:Hb 85 [91] x false F)(d:Hn m1 9 [105,110,116] .nils F r):Ht 139 σ r F:=
 Br qo [st 4 (QS σ M),st 2 (oW H),st 3 (oW a),st 3 (oW b),st 4 (oW d),st 0 (zl F r)] (rz 2 r)
section
variable(V:Hb 85 [105,110,116] D false x)(X:Hc x m2)
include V X
theorem AY5(d:(m2:Int)=0)(b:Hs 42 x J F)(a:Hn m1 9 J .nils F r):Ht 139 σ r F:=
 Br qo [st 4 (QS σ M),st 2 (oW H),st 3 (oW V),st 3 (oW X),sp 0 (Bz .i64 d),st 5 (oW b),st 0 (oW a),st 0 (zl F r)] (rz 2 r)
theorem AY4(d:(m2:Int)≠0)(b:E 41 [r0,I 4,.str [116,121,112,101]] x (.tuple []) F)(a:Hn m1 1 [] .nils F r):Ht 139 σ r F:=
 Br qo [st 4 (QS σ M),st 2 (oW H),st 3 (oW V),st 3 (oW X),sp 0 (Bb .i64 d),st 3 (oW b),st 2 (oW a),st 0 (zl F r)] (rz 2 r)
end
section
variable(V:Hb 85 [105,110,116] D true x)(X:Hb 85 [91] x true F)(h4:Hc F m2)
include V X h4
theorem AY3(f:(m2:Int)=2)(g:Hs 42 F J A)(d:EvE 150 [.str J] (.str s2))(a:Hb 83 [93] A b1 O)(b:Hn m1 10 s2 .nils O r):Ht 139 σ r O:=
 Br qo [st 4 (QS σ M),st 2 (oW H),st 3 (oW V),st 3 (oW X),st 4 (oW h4),sp 0 (Bz .i64 f),st 2 (oW g),st 0 (oCS A d),st 2 (oW a),st 3 (oW b),st 0 (zl O r)] (rz 2 r)
theorem AY2(d:(m2:Int)≠2)(f:E 41 [r0,I 4,.str [110,117,109,98,101,114]] F (.tuple []) A)(b:Hb 83 [93] A b1 O)(a:Hn m1 10 [] .nils O r):Ht 139 σ r O:=
 Br qo [st 4 (QS σ M),st 2 (oW H),st 3 (oW V),st 3 (oW X),st 4 (oW h4),sp 0 (Bb .i64 d),st 2 (oW f),st 1 (oW b),st 3 (oW a),st 0 (zl O r)] (rz 2 r)
end
end
end
def R62:Rn 87 a87:=rn
def WM(a:Hb 85 [58] σ true D)(b:Ht 139 D r x):Ht 87 σ r x:=
 Br R62 [st 2 (oW a),st 2 (oW b),st 0 (zl x r)] (rz 2 r)
def BvR(a:Hb 85 [58] σ false D)(b:Hk D m1)(d:Hn m1 0 [] .nils D r):Ht 87 σ r D:=
 Br R62 [st 2 (oW a),st 5 (QS D b),st 0 (oW d),st 0 (zl D r)] (rz 2 r)
def BYR:Rn 138 a138:=rn
def AY9(f:Hk σ m1)(a:Hb 85 [118,97,114] σ true D)(g:Hs 82 D J x)(b:Ht 87 x r F)(d:Hn m1 8 J (slF 5 [r.pv]) F z):Ht 138 σ z F:=
 Br BYR [st 4 (QS σ f),st 3 (oW a),st 3 (oW g),st 2 (oW b),sp 1 (BD r),st 4 (QS F (AL r)),st 0 (bz1 F r),st 0 (wn d),st 0 (zl F z)] (rz 2 z)
def AY8(f:Hk σ m1)(a:Hb 85 [118,97,114] σ false D)(g:Hs 82 D J x)(b:Ht 87 x r F)(d:Hn m1 7 J (slF 5 [r.pv]) F z):Ht 138 σ z F:=
 Br BYR [st 4 (QS σ f),st 3 (oW a),st 2 (oW g),st 2 (oW b),sp 1 (BD r),st 4 (QS F (AL r)),st 0 (bz1 F r),st 0 (wn d),st 0 (zl F z)] (rz 2 z)
def R28:Rn 40 a40:=rn
def r28(g:Hk σ m1)(a:Hs 42 σ J D)(i:Hs 82 D s2 x)(b:Ht 86 x r F)(d:Ht 87 F z A)(h:Ht 88 A U O)(f:Hn m1 5 s2 (slF 5 [r.pv,z.pv,U.pv]) O U4):Ht 40 σ U4 O:=
 Br R28 [st 4 (QS σ g),st 2 (oW a),st 1 (oW i),st 2 (oW b),sp 1 (BD r),st 1 (oW d),sp 1 (BD z),st 1 (oW h),sp 1 (BD U),st 3 (QS O (AL r)),st 0 (QS O (AL z)),st 0 (QS O (AL U)),st 0 (bz3 O r z U),st 0 (wn f),st 0 (zl O U4)] (rz 2 U4)
def R83:Rn 104 a104:=rn
section
variable(M:Hk σ m1)(H:Hs 42 σ J D)(V:Hx 1 D r x)(X:Ht 88 x z F)(x2:Hk F m2)(h4:Hn m2 0 [] .nils F U)
include M H V X x2 h4
def ry:List Stp:=[st 4 (QS σ M),st 2 (oW H),st 1 (oW V),sp 1 (BD r),st 1 (oW X),sp 1 (BD z),st 4 (QS F x2),st 0 (oW h4),st 1 (zl F U)]
theorem BkZ(a:Hb 85 [101,108,115,101] F false A)(b:Hn m1 14 [] (slF 5 [r.pv,z.pv,U.pv]) A U4):Ht 104 σ U4 A:=
 Br R83 (ry M H V X x2 h4++[st 1 (oW a),st 3 (QS A (AL r)),st 0 (QS A (AL z)),sp 0 (EQ U),st 0 (bz3 A r z U),st 0 (wn b),st 0 (zl A U4)]) (rz 2 U4)
section
variable(h5:Hb 85 [101,108,115,101] F true A)
include h5
theorem BkY(d:Hb 38 [105,102] A true A)(a:Ht 104 A U4 O)(b:Hn m1 14 [] (slF 5 [r.pv,z.pv,U4.pv]) O U5):Ht 104 σ U5 O:=
 Br R83 (ry M H V X x2 h4++[st 1 (oW h5),st 2 (oW d),st 2 (oW a),sp 0 (Iz U U4),st 2 (QS O (AL r)),st 0 (QS O (AL z)),sp 0 (EQ U4),st 0 (bz3 O r z U4),st 0 (wn b),st 0 (zl O U5)]) (rz 2 U5)
theorem BkX(d:Hb 38 [105,102] A false A)(a:Ht 88 A U4 O)(b:Hn m1 14 [] (slF 5 [r.pv,z.pv,U4.pv]) O U5):Ht 104 σ U5 O:=
 Br R83 (ry M H V X x2 h4++[st 1 (oW h5),st 2 (oW d),st 2 (oW a),sp 0 (Iz U U4),st 2 (QS O (AL r)),st 0 (QS O (AL z)),sp 0 (EQ U4),st 0 (bz3 O r z U4),st 0 (wn b),st 0 (zl O U5)]) (rz 2 U5)
end
end
def R39:Rn 55 a55:=rn
section
variable(M:Hk σ m1)
include M
theorem BwI(a:Hb 85 [118,97,114] σ true D)(h:Hs 82 D J x)(b:Ht 87 x r F)(d:Hb 83 [61] F b1 A)(g:Hx 1 A z O)(f:Hb 83 [59] O b2 σ6)(i:Hn m1 12 J (slF 5 [r.pv,z.pv]) σ6 U):Ht 55 σ U σ6:=
 Br R39 [st 4 (QS σ M),st 2 (oW a),st 3 (oW h),st 2 (oW b),sp 1 (BD r),st 1 (oW d),st 1 (oW g),sp 1 (BD z),st 1 (oW f),st 3 (QS σ6 (AL r)),st 0 (QS σ6 (AL z)),st 0 (bz2 σ6 r z),st 0 (wn i),st 0 (zl σ6 U)] (rz 2 U)
section
variable(H:Hb 85 [118,97,114] σ false D)
include H
def ru:List Stp:=[st 4 (QS σ M),st 2 (oW H)]
theorem BwH(a:Hb 38 [105,102] D true D)(b:Ht 104 D r x):Ht 55 σ r x:=
 Br R39 (ru M H++[st 3 (oW a),st 3 (oW b),st 0 (zl x r)]) (rz 2 r)
section
variable(V:Hb 38 [105,102] D false D)
include V
theorem BwG(b:Hb 85 [119,104,105,108,101] D true x)(d:Hx 1 x r F)(a:Ht 88 F z A)(f:Hn m1 15 [] (slF 5 [r.pv,z.pv]) A U):Ht 55 σ U A:=
 Br R39 (ru M H++[st 3 (oW V),st 3 (oW b),st 3 (oW d),sp 1 (BD r),st 1 (oW a),sp 1 (BD z),st 2 (QS A (AL r)),st 0 (QS A (AL z)),st 0 (bz2 A r z),st 0 (wn f),st 0 (zl A U)]) (rz 2 U)
section
variable(X:Hb 85 [119,104,105,108,101] D false x)
include X
def Sv:List Stp:=ru M H++[st 3 (oW V),st 3 (oW X)]
theorem BwF(i:Hb 85 [102,111,114] x true F)(f:Hs 82 F J A)(j:Hb 83 [61] A b1 O)(g:Hx 1 O r σ6)(h:Hb 83 [116,111] σ6 b2 σ7)(d:Hx 1 σ7 z σ8)(a:Ht 88 σ8 U σ9)(b:Hn m1 16 J (slF 5 [r.pv,z.pv,U.pv]) σ9 U4):Ht 55 σ U4 σ9:=
 Br R39 (Sv M H V X++[st 3 (oW i),st 3 (oW f),st 2 (oW j),st 1 (oW g),sp 1 (BD r),st 1 (oW h),st 1 (oW d),sp 1 (BD z),st 1 (oW a),sp 1 (BD U),st 3 (QS σ9 (AL r)),st 0 (QS σ9 (AL z)),st 0 (QS σ9 (AL U)),st 0 (bz3 σ9 r z U),st 0 (wn b),st 0 (zl σ9 U4)]) (rz 2 U4)
section
variable(h4:Hb 85 [102,111,114] x false F)
include h4
theorem BwE(h:Hb 85 [114,101,116,117,114,110] F true A)(g:Hk A m2)(d:Hn m2 0 [] .nils A r)(i:E 105 [r0] A (.bool true) A)(b:Hx 1 A z O)(f:Hb 83 [59] O b1 σ6)(a:Hn m1 17 [] (slF 5 [z.pv]) σ6 U):Ht 55 σ U σ6:=
 Br R39 (Sv M H V X++[st 3 (oW h4),st 3 (oW h),st 6 (QS A g),st 0 (oW d),st 1 (zl A r),st 1 (oW i),st 10 (oW b),sp 0 (Iz r z),st 1 (oW f),sp 2 (EQ z),st 0 (bz1 σ6 z),st 0 (wn a),st 0 (zl σ6 U)]) (rz 2 U)
theorem BwD(g:Hb 85 [114,101,116,117,114,110] F false A)(d:Hb 85 [97,115,115,101,114,116] A true O)(a:Hx 1 O r σ6)(b:Hb 83 [59] σ6 b1 σ7)(f:Hn m1 18 [] (slF 5 [r.pv]) σ7 z):Ht 55 σ z σ7:=
 Br R39 (Sv M H V X++[st 3 (oW h4),st 3 (oW g),st 3 (oW d),st 3 (oW a),sp 1 (BD r),st 1 (oW b),st 2 (QS σ7 (AL r)),st 0 (bz1 σ7 r),st 0 (wn f),st 0 (zl σ7 z)]) (rz 2 z)
theorem BwC(f:Hb 85 [114,101,116,117,114,110] F true A)(d:Hk A m2)(i:Hn m2 0 [] .nils A r)(g:E 105 [r0] A (.bool false) A)(h:Hb 38 [110,111,116] A true A)(j:Hx 1 A z O)(a:Hb 83 [59] O b1 σ6)(b:Hn m1 17 [] (slF 5 [z.pv]) σ6 U):Ht 55 σ U σ6:=
 Br R39 (Sv M H V X++[st 3 (oW h4),st 3 (oW f),st 6 (QS A d),st 0 (oW i),st 1 (zl A r),st 1 (oW g),sg 2 (oW h),st 7 (oW j),sp 0 (Iz r z),st 1 (oW a),sp 2 (EQ z),st 0 (bz1 σ6 z),st 0 (wn b),st 0 (zl σ6 U)]) (rz 2 U)
theorem BwB(g:Hb 85 [114,101,116,117,114,110] F false A)(d:Hb 85 [97,115,115,101,114,116] A false O)(a:Hc O m2)(b:(m2:Int)≠0)(f:Ht 109 O r σ6):Ht 55 σ r σ6:=
 Br R39 (Sv M H V X++[st 3 (oW h4),st 3 (oW g),st 3 (oW d),st 3 (oW a),sp 0 (Bb .i64 b),st 8 (oW a),sp 0 (Bb .i64 b),st 3 (oW f),st 0 (zl σ6 r)]) (rz 2 r)
section
variable(h5:Hb 85 [114,101,116,117,114,110] F true A)(x2:Hk A m2)(h6:Hn m2 0 [] .nils A r)(h7:E 105 [r0] A (.bool false) A)(h8:Hb 38 [110,111,116] A false A)
include h5 x2 h6 h7 h8
def AjI:List Stp:=Sv M H V X++[st 3 (oW h4),st 3 (oW h5),st 6 (QS A x2),st 0 (oW h6),st 1 (zl A r),st 1 (oW h7),sg 2 (oW h8)]
theorem BwA(f:Hb 38 [45] A true A)(a:Hx 1 A z O)(d:Hb 83 [59] O b1 σ6)(b:Hn m1 17 [] (slF 5 [z.pv]) σ6 U):Ht 55 σ U σ6:=
 Br R39 (AjI M H V X h4 h5 x2 h6 h7 h8++[sg 3 (oW f),st 3 (oW a),sp 0 (Iz r z),st 1 (oW d),sp 2 (EQ z),st 0 (bz1 σ6 z),st 0 (wn b),st 0 (zl σ6 U)]) (rz 2 U)
theorem AKO(d:Hb 38 [45] A false A)(a:Hb 83 [59] A b1 O)(b:Hn m1 17 [] (slF 5 [r.pv]) O z):Ht 55 σ z O:=
 Br R39 (AjI M H V X h4 h5 x2 h6 h7 h8++[sg 3 (oW d),st 3 (oW a),sp 2 (EQ r),st 0 (bz1 O r),st 0 (wn b),st 0 (zl O z)]) (rz 2 z)
end
section
variable(h5:Hb 85 [114,101,116,117,114,110] F false A)(h6:Hb 85 [97,115,115,101,114,116] A false O)(h7:Hc O m2)(T:(m2:Int)=0)(h8:Hs 106 O J O)
include h5 h6 h7 T h8
def rE:List Stp:=Sv M H V X++[st 3 (oW h4),st 3 (oW h5),st 3 (oW h6),st 3 (oW h7),sp 0 (Bz .i64 T),sg 2 (oW h8)]
theorem AKN(c2:J=[40])(f:Hs 42 O s2 σ6)(a:E 107 [r0] σ6 (slF 5 (Tr.pvs G)) σ7)(d:Hb 83 [59] σ7 b1 σ8)(b:Hn m1 19 s2 (slF 5 (Tr.pvs G)) σ8 r):Ht 55 σ r σ8:=
 Br R39 (rE M H V X h4 h5 h6 h7 T h8++[sq 0 (Jb c2),st 4 (oW f),st 2 (oW a),st 2 (oW d),st 4 (oW b),st 0 (zl σ8 r)]) (rz 2 r)
theorem AKM(c2:J≠[40])(g:Ht 108 O r σ6)(a:Hb 83 [61] σ6 b1 σ7)(d:Hx 1 σ7 z σ8)(b:Hb 83 [59] σ8 b2 σ9)(f:Hn m1 13 [] (slF 5 [r.pv,z.pv]) σ9 U):Ht 55 σ U σ9:=
 Br R39 (rE M H V X h4 h5 h6 h7 T h8++[sq 0 (II c2),st 4 (oW h7),sp 0 (Bz .i64 T),st 3 (oW g),sp 1 (BD r),st 1 (oW a),st 1 (oW d),sp 1 (BD z),st 1 (oW b),st 2 (QS σ9 (AL r)),st 0 (QS σ9 (AL z)),st 0 (bz2 σ9 r z),st 0 (wn f),st 0 (zl σ9 U)]) (rz 2 U)
end
end
end
end
end
end
def R36:Rn 53 a53:=rn
def Ax6(b:Hk σ m1)(a:Hx 2 σ r D)(d:LL a53 0 [(0,r0),(1,I 1),(4,Z1),(5,N m1),(8,r.pv)] D (.exit 1) [(0,r0),(1,I 1),(4,Z1),(5,N m1),(8,z.pv)] x):Hx 1 σ z x:=
 Br R36 [st 4 (QS σ b),st 11 (oW a),st 1 (zl D r),sl 0 [0,1,4,5,8] d,sp 0 (EQ z),st 0 (zl x z)] (rz 4 z)
def Tg(a:E 103 [r0,I 1] x (.bool true) x)(g:Hs 42 x J F)(b:Hx 2 F z A)(d:Hn m1 29 J (slF 5 [r.pv,z.pv]) A U)(f:LL a53 0 [(0,r0),(1,I 1),(4,Z1),(5,N m1),(8,U.pv)] A e K Y):LL a53 0 [(0,r0),(1,I 1),(4,Z1),(5,N m1),(8,r.pv)] x e K Y:=
 BC [0,1,4,5,8] [st 2 (oW a),st 2 (oW g),st 4 (oW b),sp 1 (BD z),sp 3 (EQ r),st 0 (QS A (AL z)),st 0 (bz2 A r z),st 0 (wn d),sp 0 (Iz r U)] f
def Vh(a:E 103 [r0,I 1] x (.bool false) x):LL a53 0 [(0,r0),(1,I 1),(4,Z1),(5,N m1),(8,r.pv)] x (.exit 1) [(0,r0),(1,I 1),(4,Z1),(5,N m1),(8,r.pv)] x:=
 Bw [0,1,4,5,8] [st 2 (oW a)]
def Ax5(b:Hk σ m1)(a:Hx 3 σ r D)(d:LL a53 0 [(0,r0),(1,I 2),(4,Z1),(5,N m1),(8,r.pv)] D (.exit 1) [(0,r0),(1,I 2),(4,Z1),(5,N m1),(8,z.pv)] x):Hx 2 σ z x:=
 Br R36 [st 4 (QS σ b),st 11 (oW a),st 1 (zl D r),sl 0 [0,1,4,5,8] d,sp 0 (EQ z),st 0 (zl x z)] (rz 4 z)
def Tf(a:E 103 [r0,I 2] x (.bool true) x)(g:Hs 42 x J F)(b:Hx 3 F z A)(d:Hn m1 29 J (slF 5 [r.pv,z.pv]) A U)(f:LL a53 0 [(0,r0),(1,I 2),(4,Z1),(5,N m1),(8,U.pv)] A e K Y):LL a53 0 [(0,r0),(1,I 2),(4,Z1),(5,N m1),(8,r.pv)] x e K Y:=
 BC [0,1,4,5,8] [st 2 (oW a),st 2 (oW g),st 4 (oW b),sp 1 (BD z),sp 3 (EQ r),st 0 (QS A (AL z)),st 0 (bz2 A r z),st 0 (wn d),sp 0 (Iz r U)] f
def Vg(a:E 103 [r0,I 2] x (.bool false) x):LL a53 0 [(0,r0),(1,I 2),(4,Z1),(5,N m1),(8,r.pv)] x (.exit 1) [(0,r0),(1,I 2),(4,Z1),(5,N m1),(8,r.pv)] x:=
 Bw [0,1,4,5,8] [st 2 (oW a)]
section
variable(M:Hk σ m1)
include M
theorem Ax4(a:Hb 85 [110,111,116] σ true D)(d:Hx 3 D r x)(b:Hn m1 28 [110,111,116] (slF 5 [r.pv]) x z):Hx 3 σ z x:=
 Br R36 [st 4 (QS σ M),st 6 (oW a),st 2 (oW d),sp 1 (BD r),st 2 (QS x (AL r)),st 0 (bz1 x r),st 0 (wn b),st 0 (zl x z)] (rz 4 z)
theorem Ax3(a:Hb 85 [110,111,116] σ false D)(b:Hx 4 D r x):Hx 3 σ r x:=
 Br R36 [st 4 (QS σ M),st 6 (oW a),st 2 (oW b),st 0 (zl x r)] (rz 4 r)
theorem Ax2(a:Hx 5 σ r D)(b:LL a53 0 [(0,r0),(1,I 4),(4,Z1),(5,N m1),(8,r.pv)] D (.exit 1) [(0,r0),(1,I 4),(4,Z1),(5,N m1),(8,z.pv)] x):Hx 4 σ z x:=
 Br R36 [st 4 (QS σ M),st 11 (oW a),st 1 (zl D r),sl 0 [0,1,4,5,8] b,sp 0 (EQ z),st 0 (zl x z)] (rz 4 z)
theorem Ax1(a:Hx 5 σ r D)(b:LL a53 0 [(0,r0),(1,I 4),(4,Z1),(5,N m1),(8,r.pv)] D .ret [(4,z.pv)] x):Hx 4 σ z x:=
 Br R36 [st 4 (QS σ M),st 11 (oW a),st 1 (zl D r),sl 0 [0,1,4,5,8] b] (rz 4 z)
end
def Vf(a:E 103 [r0,I 4] x (.bool true) x)(f:Hs 42 x J F)(b:Hx 5 F z A)(d:Hn m1 29 J (slF 5 [r.pv,z.pv]) A U):LL a53 0 [(0,r0),(1,I 4),(4,Z1),(5,N m1),(8,r.pv)] x .ret [(4,U.pv)] A:=
 Bw [4] [st 2 (oW a),st 2 (oW f),st 4 (oW b),sp 1 (BD z),sp 3 (EQ r),st 0 (QS A (AL z)),st 0 (bz2 A r z),st 0 (wn d),sp 0 (Iz r U),sp 3 (EQ U),st 0 (zl A U)]
def Ve(a:E 103 [r0,I 4] x (.bool false) x):LL a53 0 [(0,r0),(1,I 4),(4,Z1),(5,N m1),(8,r.pv)] x (.exit 1) [(0,r0),(1,I 4),(4,Z1),(5,N m1),(8,r.pv)] x:=
 Bw [0,1,4,5,8] [st 2 (oW a)]
def Ax0(b:Hk σ m1)(a:Hx 6 σ r D)(d:LL a53 0 [(0,r0),(1,I 5),(4,Z1),(5,N m1),(8,r.pv)] D (.exit 1) [(0,r0),(1,I 5),(4,Z1),(5,N m1),(8,z.pv)] x):Hx 5 σ z x:=
 Br R36 [st 4 (QS σ b),st 11 (oW a),st 1 (zl D r),sl 0 [0,1,4,5,8] d,sp 0 (EQ z),st 0 (zl x z)] (rz 4 z)
def Te(a:E 103 [r0,I 5] x (.bool true) x)(g:Hs 42 x J F)(b:Hx 6 F z A)(d:Hn m1 29 J (slF 5 [r.pv,z.pv]) A U)(f:LL a53 0 [(0,r0),(1,I 5),(4,Z1),(5,N m1),(8,U.pv)] A e K Y):LL a53 0 [(0,r0),(1,I 5),(4,Z1),(5,N m1),(8,r.pv)] x e K Y:=
 BC [0,1,4,5,8] [st 2 (oW a),st 2 (oW g),st 4 (oW b),sp 1 (BD z),sp 3 (EQ r),st 0 (QS A (AL z)),st 0 (bz2 A r z),st 0 (wn d),sp 0 (Iz r U)] f
def Vd(a:E 103 [r0,I 5] x (.bool false) x):LL a53 0 [(0,r0),(1,I 5),(4,Z1),(5,N m1),(8,r.pv)] x (.exit 1) [(0,r0),(1,I 5),(4,Z1),(5,N m1),(8,r.pv)] x:=
 Bw [0,1,4,5,8] [st 2 (oW a)]
def AqZ(b:Hk σ m1)(a:Hx 7 σ r D)(d:LL a53 0 [(0,r0),(1,I 6),(4,Z1),(5,N m1),(8,r.pv)] D (.exit 1) [(0,r0),(1,I 6),(4,Z1),(5,N m1),(8,z.pv)] x):Hx 6 σ z x:=
 Br R36 [st 4 (QS σ b),st 11 (oW a),st 1 (zl D r),sl 0 [0,1,4,5,8] d,sp 0 (EQ z),st 0 (zl x z)] (rz 4 z)
def Td(a:E 103 [r0,I 6] x (.bool true) x)(g:Hs 42 x J F)(b:Hx 7 F z A)(d:Hn m1 29 J (slF 5 [r.pv,z.pv]) A U)(f:LL a53 0 [(0,r0),(1,I 6),(4,Z1),(5,N m1),(8,U.pv)] A e K Y):LL a53 0 [(0,r0),(1,I 6),(4,Z1),(5,N m1),(8,r.pv)] x e K Y:=
 BC [0,1,4,5,8] [st 2 (oW a),st 2 (oW g),st 4 (oW b),sp 1 (BD z),sp 3 (EQ r),st 0 (QS A (AL z)),st 0 (bz2 A r z),st 0 (wn d),sp 0 (Iz r U)] f
def Vb(a:E 103 [r0,I 6] x (.bool false) x):LL a53 0 [(0,r0),(1,I 6),(4,Z1),(5,N m1),(8,r.pv)] x (.exit 1) [(0,r0),(1,I 6),(4,Z1),(5,N m1),(8,r.pv)] x:=
 Bw [0,1,4,5,8] [st 2 (oW a)]
def AqY(d:Hk σ m1)(a:Hb 85 [45] σ true D)(f:Hx 7 D r x)(b:Hn m1 28 [45] (slF 5 [r.pv]) x z):Hx 7 σ z x:=
 Br R36 [st 4 (QS σ d),st 9 (oW a),st 2 (oW f),sp 1 (BD r),st 2 (QS x (AL r)),st 0 (bz1 x r),st 0 (wn b),st 0 (zl x z)] (rz 4 z)
def AqX(b:Hk σ m1)(a:Hb 85 [45] σ false D)(d:Ht 102 D r x):Hx 7 σ r x:=
 Br R36 [st 4 (QS σ b),st 9 (oW a),st 2 (oW d),st 0 (zl x r)] (rz 4 r)
def R71:Rn 102 kN:=rn
section
variable(M:Hk σ m1)(H:Hc σ m2)
include M H
def iP:List Stp:=[st 4 (QS σ M),st 2 (oW H)]
theorem BvK(f:(m2:Int)=2)(a:Hs 42 σ J D)(b:EvE 150 [.str J] (.str s2))(d:Hn m1 24 s2 .nils D r):Ht 102 σ r D:=
 Br R71 (iP M H++[sp 0 (Bz .i64 f),st 5 (oW a),st 0 (oCS D b),st 0 (oW d),st 0 (zl D r)]) (rz 2 r)
section
variable(T:(m2:Int)≠2)
include T
theorem BvJ(a:Hb 38 [116,114,117,101] σ true σ)(b:Hs 42 σ J D)(d:Hn m1 25 J .nils D r):Ht 102 σ r D:=
 Br R71 (iP M H++[sp 0 (Bb .i64 T),st 3 (oW a),st 9 (oW b),st 0 (oW d),st 0 (zl D r)]) (rz 2 r)
section
variable(V:Hb 38 [116,114,117,101] σ false σ)
include V
def rD:List Stp:=iP M H++[sp 0 (Bb .i64 T),st 3 (oW V)]
theorem BvI(b:Hb 38 [102,97,108,115,101] σ true σ)(d:Hs 42 σ J D)(a:Hn m1 25 J .nils D r):Ht 102 σ r D:=
 Br R71 (rD M H T V++[sg 2 (oW b),st 6 (oW d),st 0 (oW a),st 0 (zl D r)]) (rz 2 r)
section
variable(X:Hb 38 [102,97,108,115,101] σ false σ)
include X
def Qj:List Stp:=rD M H T V++[sg 2 (oW X),st 4 (oW H)]
theorem BvH(c2:(m2:Int)=0)(b:Hs 106 σ J σ)(a:J=[40])(f:Hs 42 σ s2 D)(d:E 107 [r0] D (slF 5 (Tr.pvs G)) x)(g:Hn m1 27 s2 (slF 5 (Tr.pvs G)) x r):Ht 102 σ r x:=
 Br R71 (Qj M H T V X++[sp 0 (Bz .i64 c2),sg 2 (oW b),sq 0 (Jb a),st 4 (oW f),st 2 (oW d),st 5 (oW g),st 0 (zl x r)]) (rz 2 r)
theorem BvG(c2:(m2:Int)=0)(b:Hs 106 σ J σ)(a:J≠[40])(d:Ht 108 σ r D):Ht 102 σ r D:=
 Br R71 (Qj M H T V X++[sp 0 (Bz .i64 c2),sg 2 (oW b),sq 0 (II a),st 4 (oW H),sp 0 (Bz .i64 c2),st 3 (oW d),st 0 (zl D r)]) (rz 2 r)
theorem BvF(c2:(m2:Int)≠0)(b:Hb 85 [91] σ true D)(g:Hx 1 D r x)(f:LL kN 0 [(0,r0),(2,Z1),(3,N m1),(6,slice true 5 [r.pv])] x (.exit 1) [(0,r0),(2,Z1),(3,N m1),(6,slice true 5 (Tr.pvs G))] F)(d:Hb 83 [93] F b1 A)(a:Hn m1 26 [] (slF 5 (Tr.pvs G)) A z):Ht 102 σ z A:=
 Br R71 (Qj M H T V X++[sp 0 (Bb .i64 c2),st 8 (oW H),sp 0 (Bb .i64 c2),st 3 (oW b),st 3 (oW g),st 0 (bz1 x r),sl 1 [0,2,3,6] f,st 1 (oW d),st 3 (oW a),st 0 (zl A z)]) (rz 2 z)
theorem BvE(c2:(m2:Int)≠0)(b:Hb 85 [91] σ false D)(h:Hb 85 [108,101,110] D true x)(f:Hb 83 [40] x b1 F)(a:Ht 151 F r A)(d:Hb 83 [41] A b2 O)(g:Hn m1 23 [] (slF 5 [r.pv]) O z):Ht 102 σ z O:=
 Br R71 (Qj M H T V X++[sp 0 (Bb .i64 c2),st 8 (oW H),sp 0 (Bb .i64 c2),st 3 (oW b),st 3 (oW h),st 3 (oW f),st 1 (oW a),sp 1 (BD r),st 1 (oW d),st 2 (QS O (AL r)),st 0 (bz1 O r),st 0 (wn g),st 0 (zl O z)]) (rz 2 z)
theorem BvD(c2:(m2:Int)≠0)(b:Hb 85 [91] σ false D)(g:Hb 85 [108,101,110] D false x)(f:Hb 85 [40] x true F)(a:Hx 1 F r A)(d:Hb 83 [41] A b1 O):Ht 102 σ r O:=
 Br R71 (Qj M H T V X++[sp 0 (Bb .i64 c2),st 8 (oW H),sp 0 (Bb .i64 c2),st 3 (oW b),st 3 (oW g),st 3 (oW f),st 3 (oW a),sp 1 (BD r),st 1 (oW d),st 0 (QS O (AL r)),st 0 (zl O r)]) (rz 2 r)
theorem BvC(c2:(m2:Int)≠0)(b:Hb 85 [91] σ false D)(g:Hb 85 [108,101,110] D false x)(f:Hb 85 [40] x false F)(a:E 41 [r0,I 5,.str []] F (.tuple []) A)(d:Hn m1 1 [] .nils A r):Ht 102 σ r A:=
 Br R71 (Qj M H T V X++[sp 0 (Bb .i64 c2),st 8 (oW H),sp 0 (Bb .i64 c2),st 3 (oW b),st 3 (oW g),st 3 (oW f),st 3 (oW a),st 2 (oW d),st 0 (zl A r)]) (rz 2 r)
end
end
end
end
def Ym(a:Hb 85 [44] D true F)(f:Hx 1 F r A)(d:G.length+1<=Bo)(b:LL kN 0 [(0,r0),(2,Z1),(3,N m1),(6,slice true 5 (Tr.pvs (G++[r])))] A e K Y):LL kN 0 [(0,r0),(2,Z1),(3,N m1),(6,slice true 5 (Tr.pvs G))] D e K Y:=
 BC [0,2,3,6] [st 1 (oW a),st 3 (oW f),st 0 (bz1 A r),sp 0 (Ke true r d)] b
def dD(a:Hb 85 [44] D false F):LL kN 0 [(0,r0),(2,Z1),(3,N m1),(6,slice true 5 (Tr.pvs G))] D (.exit 1) [(0,r0),(2,Z1),(3,N m1),(6,slice true 5 (Tr.pvs G))] F:=
 Bw [0,2,3,6] [st 1 (oW a)]
def R86:Rn 107 a107:=rn
def BkO(a:Hs 42 σ J D)(d:Hb 38 [41] D true D)(b:Hb 83 [41] D b1 x):E 107 [r0] σ (slF 5 []) x:=
 rule R86 [st 4 (oW a),st 1 (oW d),st 3 (oW b)]
def BkN(a:Hs 42 σ J D)(g:Hb 38 [41] D false D)(b:Hx 1 D r x)(f:LL a107 0 [(0,r0),(3,slice true 5 [r.pv])] x (.exit 0) [(0,r0),(3,slice true 5 (Tr.pvs G))] F)(d:Hb 83 [41] F b1 A):E 107 [r0] σ (slF 5 (Tr.pvs G)) A:=
 rule R86 [st 4 (oW a),st 1 (oW g),st 4 (oW b),st 0 (bz1 x r),st 0 (GK (NV (by simp[Bo]) (by simp) (by simp)):Bt pur run (.p (.app 5)) [.slice true 5 [],.slice true 5 [r.pv]] x [some (.slice true 5 [r.pv]),some (slF 5 [])] x),sl 1 [0,3] f,st 1 (oW d)]
def Yk(a:Hb 85 [44] D true F)(f:Hx 1 F r A)(d:G.length+1<=Bo)(b:LL a107 0 [(0,r0),(3,slice true 5 (Tr.pvs (G++[r])))] A e K Y):LL a107 0 [(0,r0),(3,slice true 5 (Tr.pvs G))] D e K Y:=
 BC [0,3] [st 1 (oW a),st 3 (oW f),st 0 (bz1 A r),sp 0 (Ke true r d)] b
def dA(a:Hb 85 [44] D false F):LL a107 0 [(0,r0),(3,slice true 5 (Tr.pvs G))] D (.exit 0) [(0,r0),(3,slice true 5 (Tr.pvs G))] F:=
 Bw [0,3] [st 1 (oW a)]
def R27:Rn 39 a39:=rn
def r27(g:Hk σ m1)(a:Hs 42 σ J D)(j:Hs 82 D s2 x)(b:Hb 83 [123] x b1 F)(d:Ht 84 F r A)(h:LL a39 0 [(0,r0),(2,Z1),(3,N m1),(4,str s2),(5,slice true 5 [r.pv])] A (.exit 0) [(0,r0),(2,Z1),(3,N m1),(4,str s2),(5,slice true 5 (Tr.pvs G))] O)(i:Hb 83 [125] O b2 σ6)(f:Hn m1 3 s2 (slF 5 (Tr.pvs G)) σ6 z):Ht 39 σ z σ6:=
 Br R27 [st 4 (QS σ g),st 2 (oW a),st 1 (oW j),st 2 (oW b),st 1 (oW d),st 0 (bz1 A r),sl 1 [0,2,3,4,5] h,st 1 (oW i),st 4 (oW f),st 0 (zl σ6 z)] (rz 2 z)
def YU(a:Hb 85 [44] D true x)(f:Ht 84 x r F)(d:G.length+1<=Bo)(b:LL a39 0 [(0,r0),(2,Z1),(3,N m1),(4,str s2),(5,slice true 5 (Tr.pvs (G++[r])))] F e K Y):LL a39 0 [(0,r0),(2,Z1),(3,N m1),(4,str s2),(5,slice true 5 (Tr.pvs G))] D e K Y:=
 BC [0,2,3,4,5] [st 1 (oW a),st 3 (oW f),st 0 (bz1 F r),sp 0 (Ke true r d)] b
def eD(a:Hb 85 [44] D false x):LL a39 0 [(0,r0),(2,Z1),(3,N m1),(4,str s2),(5,slice true 5 (Tr.pvs G))] D (.exit 0) [(0,r0),(2,Z1),(3,N m1),(4,str s2),(5,slice true 5 (Tr.pvs G))] x:=
 Bw [0,2,3,4,5] [st 1 (oW a)]
def R61:Rn 86 a86:=rn
def BvT(f:Hk σ m1)(a:Hb 83 [40] σ b1 D)(g:Hb 38 [41] D true D)(b:Hb 83 [41] D b2 x)(d:Hn m1 6 [] (slF 5 []) x r):Ht 86 σ r x:=
 Br R61 [st 4 (QS σ f),st 4 (oW a),st 1 (oW g),st 3 (oW b),st 3 (oW d),st 0 (zl x r)] (rz 2 r)
def BvS(i:Hk σ m1)(a:Hb 83 [40] σ b1 D)(f:Hb 38 [41] D false D)(g:Ht 138 D r x)(b:LL a86 0 [(0,r0),(2,Z1),(3,N m1),(4,slice true 5 [r.pv])] x (.exit 0) [(0,r0),(2,Z1),(3,N m1),(4,slice true 5 (Tr.pvs G))] F)(h:Hb 83 [41] F b2 A)(d:Hn m1 6 [] (slF 5 (Tr.pvs G)) A z):Ht 86 σ z A:=
 Br R61 [st 4 (QS σ i),st 4 (oW a),st 1 (oW f),st 4 (oW g),st 0 (bz1 x r),st 0 (GK (NV (by simp[Bo]) (by simp) (by simp)):Bt pur run (.p (.app 5)) [.slice true 5 [],.slice true 5 [r.pv]] x [some (.slice true 5 [r.pv]),some (slF 5 [])] x),sl 1 [0,2,3,4] b,st 1 (oW h),st 3 (oW d),st 0 (zl A z)] (rz 2 z)
def Yp(a:Hb 85 [44] D true F)(f:Ht 138 F r A)(d:G.length+1<=Bo)(b:LL a86 0 [(0,r0),(2,Z1),(3,N m1),(4,slice true 5 (Tr.pvs (G++[r])))] A e K Y):LL a86 0 [(0,r0),(2,Z1),(3,N m1),(4,slice true 5 (Tr.pvs G))] D e K Y:=
 BC [0,2,3,4] [st 1 (oW a),st 3 (oW f),st 0 (bz1 A r),sp 0 (Ke true r d)] b
def dH(a:Hb 85 [44] D false F):LL a86 0 [(0,r0),(2,Z1),(3,N m1),(4,slice true 5 (Tr.pvs G))] D (.exit 0) [(0,r0),(2,Z1),(3,N m1),(4,slice true 5 (Tr.pvs G))] F:=
 Bw [0,2,3,4] [st 1 (oW a)]
def R63:Rn 88 a88:=rn
def BvQ(d:Hk σ m1)(a:Hb 83 [123] σ true D)(f:LL a88 0 [(0,r0),(2,Z1),(3,N m1),(4,slice true 5 [])] D (.exit 0) [(0,r0),(2,Z1),(3,N m1),(4,slice true 5 (Tr.pvs G))] x)(g:Hb 83 [125] x b1 F)(b:Hn m1 11 [] (slF 5 (Tr.pvs G)) F r):Ht 88 σ r F:=
 Br R63 [st 4 (QS σ d),st 4 (oW a),sl 2 [0,2,3,4] f,st 1 (oW g),st 3 (oW b),st 0 (zl F r)] (rz 2 r)
def BvP(b:Hk σ m1)(a:Hb 83 [123] σ false D)(d:Hn m1 11 [] .nils D r):Ht 88 σ r D:=
 Br R63 [st 4 (QS σ b),st 4 (oW a),st 4 (oW d),st 0 (zl D r)] (rz 2 r)
def Q6(a:E 140 [r0] x (.bool true) x):LL a88 0 [(0,r0),(2,Z1),(3,N m1),(4,slice true 5 (Tr.pvs G))] x (.exit 0) [(0,r0),(2,Z1),(3,N m1),(4,slice true 5 (Tr.pvs G))] x:=
 Bw [0,2,3,4] [st 1 (oW a)]
def Yo(a:E 140 [r0] x (.bool false) x)(f:Ht 55 x r F)(d:G.length+1<=Bo)(b:LL a88 0 [(0,r0),(2,Z1),(3,N m1),(4,slice true 5 (Tr.pvs (G++[r])))] F e K Y):LL a88 0 [(0,r0),(2,Z1),(3,N m1),(4,slice true 5 (Tr.pvs G))] x e K Y:=
 BC [0,2,3,4] [st 1 (oW a),st 4 (oW f),st 0 (bz1 F r),sp 0 (Ke true r d)] b
def R88:Rn 109 a109:=rn
def r88(b:Hk σ m1)(a:E 41 [r0,I 6,.str []] σ (.tuple []) D)(d:LL a109 0 [(0,r0),(2,Z1),(3,N m1)] D (.exit 0) [(0,r0),(2,Z1),(3,N m1)] x)(f:Hn m1 1 [] .nils x r):Ht 109 σ r x:=
 Br R88 [st 4 (QS σ b),st 2 (oW a),sl 0 [0,2,3] d,st 2 (oW f),st 0 (zl x r)] (rz 2 r)
def M6(a:E 140 [r0] x (.bool true) x):LL a109 0 [(0,r0),(2,Z1),(3,N m1)] x (.exit 0) [(0,r0),(2,Z1),(3,N m1)] x:=
 Bw [0,2,3] [st 1 (oW a)]
section
variable(H:E 140 [r0] x (.bool false) x)(M:Hk x m2)
include H M
def Sw:List Stp:=[st 1 (oW H),sg 5 (QS x M)]
section
variable(T:(m2:Int)=(m1:Int))(V:Hs 42 x J F)
include T V
theorem dz(c2:J=[59]):LL a109 0 [(0,r0),(2,Z1),(3,N m1)] x (.exit 0) [(0,r0),(2,Z1),(3,N m1)] F:=
 Bw [0,2,3] (Sw H M++[sq 1 (Bz .i64 T),st 8 (oW V),sp 0 (Jb c2)])
theorem Yj(c2:J≠[59])(a:LL a109 0 [(0,r0),(2,Z1),(3,N m1)] F e K Y):LL a109 0 [(0,r0),(2,Z1),(3,N m1)] x e K Y:=
 BC [0,2,3] (Sw H M++[sq 1 (Bz .i64 T),st 8 (oW V),sp 0 (II c2)]) a
end
section
variable(T:(m2:Int)≠(m1:Int))
include T
theorem dx(a:E 154 [r0] x (.bool true) x):LL a109 0 [(0,r0),(2,Z1),(3,N m1)] x (.exit 0) [(0,r0),(2,Z1),(3,N m1)] x:=
 Bw [0,2,3] (Sw H M++[sq 1 (Bb .i64 T),sg 2 (oW a)])
section
variable(V:E 154 [r0] x (.bool false) x)(X:Hs 42 x J F)
include V X
theorem dw(c2:J=[59]):LL a109 0 [(0,r0),(2,Z1),(3,N m1)] x (.exit 0) [(0,r0),(2,Z1),(3,N m1)] F:=
 Bw [0,2,3] (Sw H M++[sq 1 (Bb .i64 T),sg 2 (oW V),st 5 (oW X),sp 0 (Jb c2)])
theorem Yi(c2:J≠[59])(a:LL a109 0 [(0,r0),(2,Z1),(3,N m1)] F e K Y):LL a109 0 [(0,r0),(2,Z1),(3,N m1)] x e K Y:=
 BC [0,2,3] (Sw H M++[sq 1 (Bb .i64 T),sg 2 (oW V),st 5 (oW X),sp 0 (II c2)]) a
end
end
end
def R24:Rn 36 a36:=rn
def r24{z1:Int}(a:EvE 80 [.str s] (.tuple [slF 4 (aa.map Tk.pv),I z1]))(b:LL a36 0 [(3,r0),(4,slice false 4 (aa.map Tk.pv)),(6,I 0)] [y0 s .nils] (.exit 0) [(3,r0)] [y0 s (BI 4 W)]):E 36 [.str s] [] r0 [y0 s (BI 4 W)]:=
 rule R24 [st 6 (oCS [y0 s .nils] a),sl 6 [3,4,6] b]
def eF(a:¬(m1:Int) < (aa.length:Int)):LL a36 0 [(3,r0),(4,slice false 4 (aa.map Tk.pv)),(6,N m1)] [y0 s (BI 4 W)] (.exit 0) [(3,r0)] [y0 s (BI 4 W)]:=
 Bw [3] [sp 2 (ED false 4 aa),sp 0 (Bh .i64 a)]
def YW{a:Tk}(f:(m1:Int) < (aa.length:Int))(b:aa[m1]?=some t1)(c2:(t1.k:Int)≠4)(i:aa[m1]?=some a)(h:W.length+1<=Bo)(d:m1<2000000000)(g:LL a36 0 [(3,r0),(4,slice false 4 (aa.map Tk.pv)),(6,N (m1+1))] [y0 s (BI 4 (W++[a.pv]))] e K Y):LL a36 0 [(3,r0),(4,slice false 4 (aa.map Tk.pv)),(6,N m1)] [y0 s (BI 4 W)] e K Y:=
 BC [3,4,6] [sp 2 (ED false 4 aa),sp 0 (AZ .i64 f),sp 3 (Cs (o:=false) (s:=4) m1 b),sp 2 (C8 .i64 c2),st 2 (ldoY:Bt pur run (.w .ldo) [.ref 0 1] [y0 s (BI 4 W)] [some (BI 4 W)] [y0 s (Ci 4 W)]),sp 2 (Cs (o:=false) (s:=4) m1 i),st 2 (GK (Kg h):Bt pur run (.p (.app 4)) [BI 4 W,.slice true 4 [a.pv]] [y0 s (Ci 4 W)] [some (BI 4 (W++[a.pv])),some (Ci 4 W)] [y0 s (Ci 4 W)]),st 1 (CqC:Bt pur run (.w .sto) [.ref 0 1,BI 4 (W++[a.pv])] [y0 s (Ci 4 W)] [some (Ci 4 (W++[a.pv]))] [y0 s (BI 4 (W++[a.pv]))]),sp 1 (AO m1 1 d)] g
def YV(b:(m1:Int) < (aa.length:Int))(a:aa[m1]?=some t1)(c2:(t1.k:Int)=4)(f:m1<2000000000)(d:LL a36 0 [(3,r0),(4,slice false 4 (aa.map Tk.pv)),(6,N (m1+1))] [y0 s (BI 4 W)] e K Y):LL a36 0 [(3,r0),(4,slice false 4 (aa.map Tk.pv)),(6,N m1)] [y0 s (BI 4 W)] e K Y:=
 BC [3,4,6] [sp 2 (ED false 4 aa),sp 0 (AZ .i64 b),sp 3 (Cs (o:=false) (s:=4) m1 a),sp 2 (Dr .i64 c2),sp 2 (AO m1 1 f)] d
def R9:Rn 11 a11:=rn
def CqG(a:(s.length:Int) > 4096):EvE 11 [.str s] (.tuple [Z1,.nils,I 8]):=
 rule R9 [sp 5 (CF .i64 a)]
def CqF{d:List Dg}{b:List PV}{a:List Dg}(m:¬(s.length:Int) > 4096)(f:E 36 [.str s] [] r0 D)(h:LL a11 0 [(0,str s),(2,Z1),(5,r0),(6,slice true 5 [])] D (.exit 0) [(0,str s),(2,Z1),(5,r0),(6,slice true 5 (Tr.pvs G))] x)(j:EvE 45 [.str s] (slF 5 (d.map Dg.pv)))(g:Dq (.ld 1 false) [.ref 0 4] x=some [some (Ci 5 b)])(i:EvE 44 [slF 5 (d.map Dg.pv),Ci 5 b] (slF 5 (a.map Dg.pv))):E 11 [.str s] [] (.tuple [.agg [I 2,.str [],I 0,N s.length,slF 5 (Tr.pvs G)],slF 5 (a.map Dg.pv),I 0]) x:=
 rule R9 [sp 5 (Cz .i64 m),st 2 (oW f),sl 3 [0,2,5,6] h,st 5 (oCS x j),st 3 (QS x g),st 0 (oCS x i)]
section
variable(H:Hc x m1)
include H
theorem jv(a:(m1:Int)=5):LL a11 0 [(0,str s),(2,Z1),(5,r0),(6,slice true 5 (Tr.pvs G))] x (.exit 0) [(0,str s),(2,Z1),(5,r0),(6,slice true 5 (Tr.pvs G))] x:=
 Bw [0,2,5,6] [st 1 (oW H),sp 0 (Dr .i64 a)]
section
variable(T:(m1:Int)≠5)
include T
theorem dh(a:Hb 38 [114,101,99,111,114,100] x true x)(b:Ht 39 x r F)(f:G.length+1<=Bo)(d:LL a11 0 [(0,str s),(2,Z1),(5,r0),(6,slice true 5 (Tr.pvs (G++[r])))] F e K Y):LL a11 0 [(0,str s),(2,Z1),(5,r0),(6,slice true 5 (Tr.pvs G))] x e K Y:=
 BC [0,2,5,6] [st 1 (oW H),sp 0 (C8 .i64 T),st 2 (oW a),st 4 (oW b),st 0 (bz1 F r),sp 0 (Ke true r f)] d
section
variable(V:Hb 38 [114,101,99,111,114,100] x false x)
include V
theorem df(b:Hb 38 [112,114,111,99] x true x)(d:Ht 40 x r F)(a:G.length+1<=Bo)(f:LL a11 0 [(0,str s),(2,Z1),(5,r0),(6,slice true 5 (Tr.pvs (G++[r])))] F e K Y):LL a11 0 [(0,str s),(2,Z1),(5,r0),(6,slice true 5 (Tr.pvs G))] x e K Y:=
 BC [0,2,5,6] [st 1 (oW H),sp 0 (C8 .i64 T),st 2 (oW V),st 3 (oW b),st 4 (oW d),st 0 (bz1 F r),sp 0 (Ke true r a)] f
theorem cZ(b:Hb 38 [112,114,111,99] x false x)(f:Hk x m2)(d:E 41 [r0,I 7,.str []] x (.tuple []) F)(h:LL a11 1 [(0,str s),(2,Z1),(5,r0),(6,slice true 5 (Tr.pvs G)),(7,N m2)] F (.exit 3) [(0,str s),(2,Z1),(5,r0),(6,slice true 5 (Tr.pvs G)),(7,N m2)] A)(i:Hn m2 1 [] .nils A r)(a:G.length+1<=Bo)(g:LL a11 0 [(0,str s),(2,Z1),(5,r0),(6,slice true 5 (Tr.pvs (G++[r])))] A e K Y):LL a11 0 [(0,str s),(2,Z1),(5,r0),(6,slice true 5 (Tr.pvs G))] x e K Y:=
 BC [0,2,5,6] [st 1 (oW H),sp 0 (C8 .i64 T),st 2 (oW V),st 3 (oW b),st 5 (QS x f),st 2 (oW d),sl 0 [0,2,5,6,7] h,st 3 (oW i),st 0 (bz1 A r),sp 0 (Ke true r a)] g
end
end
end
section
variable(H:Hc A m1)
include H
theorem jr(a:(m1:Int)=5):LL a11 1 [(0,str s),(2,Z1),(5,r0),(6,slice true 5 (Tr.pvs G)),(7,N m2)] A (.exit 3) [(0,str s),(2,Z1),(5,r0),(6,slice true 5 (Tr.pvs G)),(7,N m2)] A:=
 Bw [0,2,5,6,7] [st 1 (oW H),sp 0 (Dr .i64 a)]
section
variable(T:(m1:Int)≠5)
include T
theorem jq(a:Hb 38 [114,101,99,111,114,100] A true A):LL a11 1 [(0,str s),(2,Z1),(5,r0),(6,slice true 5 (Tr.pvs G)),(7,N m2)] A (.exit 3) [(0,str s),(2,Z1),(5,r0),(6,slice true 5 (Tr.pvs G)),(7,N m2)] A:=
 Bw [0,2,5,6,7] [st 1 (oW H),sp 0 (C8 .i64 T),sg 2 (oW a)]
section
variable(V:Hb 38 [114,101,99,111,114,100] A false A)
include V
theorem jo(a:Hb 38 [112,114,111,99] A true A):LL a11 1 [(0,str s),(2,Z1),(5,r0),(6,slice true 5 (Tr.pvs G)),(7,N m2)] A (.exit 3) [(0,str s),(2,Z1),(5,r0),(6,slice true 5 (Tr.pvs G)),(7,N m2)] A:=
 Bw [0,2,5,6,7] [st 1 (oW H),sp 0 (C8 .i64 T),sg 2 (oW V),sg 4 (oW a)]
theorem Q5(b:Hb 38 [112,114,111,99] A false A)(d:Hs 42 A J O)(a:LL a11 1 [(0,str s),(2,Z1),(5,r0),(6,slice true 5 (Tr.pvs G)),(7,N m2)] O e K Y):LL a11 1 [(0,str s),(2,Z1),(5,r0),(6,slice true 5 (Tr.pvs G)),(7,N m2)] A e K Y:=
 BC [0,2,5,6,7] [st 1 (oW H),sp 0 (C8 .i64 T),sg 2 (oW V),sg 4 (oW b),st 4 (oW d)] a
end
end
end
end
end Go.Abs.Z

namespace Go.Abs.Z
open Go.Proofs Go.RowKit
def kdE(kd:Nat):Bool:=kd==6||kd==11||kd==19||kd==27
mutual

def trR(ls:List Tk):AT->Tr
 |.mk kd tx f k b ks=>.mk kd tx (match Fs ls ks with | []=>if f<k then(tA ls f:Nat) else(en ls k:Nat) | u::_=>min (if f<k then((tA ls f:Nat):Int) else(en ls k:Nat)) u.st) (en ls k:Nat) (ks.isEmpty&&!(b&&kdE kd)) (Fs ls ks)
def Fs(ls:List Tk):List AT->List Tr
 |[]=>[]
 |x::xs=>trR ls x::Fs ls xs
end
def Sr(ls:List Tk):∀xs:List AT,Fs ls xs=xs.map (trR ls)
 |[]=>rfl
 |x::xs=>by rw[Fs,Sr ls xs];rfl
def nL(ls:List Tk)(xs:List AT)(x:AT):Fs ls (xs++[x])=Fs ls xs++[trR ls x]:=by simp[Sr]
def qZ(ls:List Tk)(xs:List AT):(Fs ls xs).length=xs.length:=by simp[Sr]
def RS4(s:List UInt8)(ls:List Tk)(k:Nat)(D:List AD):Sto:=[qc s ls k (en ls k) (D.map (dgp ls))]
section
variable{s:List UInt8}{ls:List Tk}{m:Nat}{k f:Nat}{D:List AD}
def ldK:Dq (.ld 1 false) [.ref 0 2] (RS4 s ls k D)=some [some (N k)]:=rfl
def u25(H:CG s ls m)(h:k<=m):E 37 [rf] (RS4 s ls k D) (N (wAt s ls k).1) (RS4 s ls k D):=by
 obtain⟨t,a⟩:=H.at h;rw[JU a];exact r25 a
def u65(H:CG s ls m){i:Nat}{t:Tk}(c:ls[i]?=some t):E 90 [.str s,t.pv] [] (.str (wd s t)) []:=by
 obtain⟨a,b⟩:=H.ord i t c;exact r65 (K8 s t.a t.e a b)
def u56(H:CG s ls m)(h:k<=m):E 81 [rf] (RS4 s ls k D) (.str (wAt s ls k).2) (RS4 s ls k D):=by
 obtain⟨t,a⟩:=H.at h;rw[JU a];exact r56 a (u65 H a)
def H5(H:CG s ls m)(h:k<=m)(b:(wAt s ls k).1=5):k=m:=by
 rcases Be k m with a | a
 ·obtain⟨t,c⟩:=H.at h;have:=H.kd k t c a;rw[JU c] at b
  simp only at b
  omega
 ·omega
def EK(H:CG s ls m)(a:k<=m)(w:List UInt8){b:Bool}(c:[w].contains (wAt s ls k).2=b)(g:w≠[]:=by simp):E 38 [rf,.str w] (RS4 s ls k D) (.bool b) (RS4 s ls k D):=by
 by_cases d:(wAt s ls k).1=5
 ·have:=H5 H a d;subst this;rw[H.end'] at c
  have:b=false:=by
   rw[<-c];simp only[BO,Cr,Db,beq_eq_false_iff_ne];exact λe=>g e.symm
  rw[this];exact BwY (u25 H a) am
 ·have h:=BwZ (w:=w) (u25 (D:=D) H a) am (u56 H a)
  have e:((wAt s ls k).2==w)=b:=by rw[<-c];simp only[BO,Cr,Db]
  rwa [e] at h
def u30(H:CG s ls m)(h:k<m):E 42 [rf] (RS4 s ls k D) (.str (wAt s ls k).2) (RS4 s ls (k+1) D):=by
 obtain⟨t,a⟩:=H.at (DJ h);have:=H.big;have b:=r30 (u56 (D:=D) H (DJ h)) a am
 have e:en ls (k+1)=t.e:=O1 a;unfold RS4;rw[e];exact b
def u29(H:CG s ls m)(h:k<=m)(q:Dok k D)(c:Nat)(x:List UInt8):E 41 [rf,N c,.str x] (RS4 s ls k D) (.tuple []) (RS4 s ls k (rp D c k x)):=by
 obtain⟨t,b⟩:=H.at h;have z:=H.big;have y:=q.small
 have r:dgp ls ⟨c,k,x⟩=(.agg [N c,N t.a,N t.e,.str x,.nils]):=by
  show(Dg.mk c (tA ls k) (tE ls k) x).pv=_;rw[JI b,O1 b];rfl
 have p:(D.map (dgp ls)).length+1<=Bo:=by rw[Ap];unfold Bo;omega
 have g:D.map (dgp ls)++[.agg [N c,N t.a,N t.e,.str x,.nils]]=(D++[(⟨c,k,x⟩:AD)]).map (dgp ls):=by rw[BV,<-r];rfl
 unfold rp;rcases Eu D.length with n | n
 ·have l:=Ak.1 n;subst l;have:=BwX (s:=s) (ls:=ls) (k:=k) (l:=en ls k) (es:=([]:List AD).map (dgp ls)) (c:=c) (tx:=x) b (by simp) p
  rw[g] at this;exact this
 ·have a:D[D.length - 1]?=some D[D.length - 1]:=Af am
  have o:(D.map (dgp ls))[(D.map (dgp ls)).length - 1]?=some (dgA ls D[D.length - 1]).pv:=by
   rw[Ap,Al,a];rfl
  have hi:=q.2 _ (Cg (by omega:D.length - 1<D.length))
  obtain⟨u,d⟩:=H.at (k:=D[D.length - 1].i) am
  have w:(dgA ls D[D.length - 1]).a=u.a:=JI d;have i:D.getLast?=some D[D.length - 1]:=by rw[List.getLast?_eq_getElem?];exact a
  rw[i,AJ];by_cases j:D[D.length - 1].i=k
  ·rw[if_pos (by rw[j])]
   rw[j] at d;rw[b] at d;cases d;exact BwW b (by rw[Ap];omega) (by rw[Ap];omega) (by rw[Ap];omega) o am
  ·rw[if_neg (λe=>j (Option.some.inj e))]
   have v:=(H.inc _ _ _ _ d b am).1
   have:=BwV (s:=s) (l:=en ls k) (c:=c) (tx:=x) b (by rw[Ap];omega) (by rw[Ap];omega) (by rw[Ap];omega) o am p
   rw[g] at this;exact this
def Nf(H:CG s ls m)(g:f<=k)(d:k<=m)(kd:Nat)(tx:List UInt8)(b:Bool)(c:(b&&kdE kd)=false:=by rfl):E 43 [rf,N f,N kd,.str tx,.nils] (RS4 s ls k D) (trR ls (.mk kd tx f k b [])).pv (RS4 s ls k D):=by
 by_cases h:f<k
 ·obtain⟨t,a⟩:=H.at (k:=f) am
  have:=AKQ (s:=s) (l:=en ls k) (es:=D.map (dgp ls)) (kd:=(kd:Int)) (tx:=tx) (k:=k) am a
  have e:(trR ls (.mk kd tx f k b [])).pv=.agg [N kd,.str tx,N t.a,N (en ls k),.nils]:=by
   rw[trR];simp only[Fs,if_pos h,JI a,c];rfl
  rw[e];exact this
 ·have:=AKP (s:=s) (ls:=ls) (l:=en ls k) (es:=D.map (dgp ls)) (kd:=(kd:Int)) (tx:=tx) (k:=k) (fi:=f) am
  have e:(trR ls (.mk kd tx f k b [])).pv=.agg [N kd,.str tx,N (en ls k),N (en ls k),.nils]:=by
   rw[trR];simp only[Fs,if_neg h,c];rfl
  rw[e];exact this
def BZ3(H:CG s ls m)(d:f<=k)(c:k<=m)(kd:Nat)(tx:List UInt8)(b:kdE kd=true:=by rfl):E 43 [rf,N f,N kd,.str tx,slF 5 []] (RS4 s ls k D) (trR ls (.mk kd tx f k true [])).pv (RS4 s ls k D):=by
 by_cases h:f<k
 ·obtain⟨t,a⟩:=H.at (k:=f) am
  have:=BwU (s:=s) (l:=en ls k) (es:=D.map (dgp ls)) (kd:=(kd:Int)) (tx:=tx) (k:=k) (us:=[]) am a (by simp)
  have e:(trR ls (.mk kd tx f k true [])).pv=.agg [N kd,.str tx,N t.a,N (en ls k),slF 5 (Tr.pvs [])]:=by
   rw[trR];simp only[Fs,if_pos h,JI a,b];rfl
  rw[e];exact this
 ·have:=BwT (s:=s) (ls:=ls) (l:=en ls k) (es:=D.map (dgp ls)) (kd:=(kd:Int)) (tx:=tx) (k:=k) (fi:=f) (us:=[]) am (by simp)
  have e:(trR ls (.mk kd tx f k true [])).pv=.agg [N kd,.str tx,N (en ls k),N (en ls k),slF 5 (Tr.pvs [])]:=by
   rw[trR];simp only[Fs,if_neg h,b];rfl
  rw[e];exact this
def QD(H:CG s ls m)(l:f<=k)(n:k<=m)(kd:Nat)(tx:List UInt8)(b:Bool)(us:List AT)(i:us≠[]:=by simp):E 43 [rf,N f,N kd,.str tx,slF 5 (Tr.pvs (Fs ls us))] (RS4 s ls k D) (trR ls (.mk kd tx f k b us)).pv (RS4 s ls k D):=by
 cases us with
 |nil=>exact absurd rfl i
 |cons u us=>
  have d:(((Fs ls (u::us)).length:Nat):Int) > 0:=by simp[Fs]
  have a:(Fs ls (u::us))[0]?=some (trR ls u):=rfl
  have e (x:Int) (j:x=min (if f<k then((tA ls f:Nat):Int) else(en ls k:Nat)) (trR ls u).st):(trR ls (.mk kd tx f k b (u::us))).pv=.agg [N kd,.str tx,I x,N (en ls k),slF 5 (Tr.pvs (Fs ls (u::us)))]:=by
   subst j;rw[trR];rfl
  by_cases h:f<k
  ·obtain⟨t,g⟩:=H.at (k:=f) am
   rw[if_pos h,JI g] at e;by_cases c:(trR ls u).st<((t.a:Nat):Int)
   ·rw[e (trR ls u).st am]
    exact BwS am g d a c a
   ·rw[e ((t.a:Nat):Int) am]
    exact BwR am g d a c
  ·rw[if_neg h] at e;by_cases c:(trR ls u).st<((en ls k:Nat):Int)
   ·rw[e (trR ls u).st am]
    exact BwQ am d a c a
   ·rw[e ((en ls k:Nat):Int) am]
    exact BwP am d a c
end
def xX(c:UInt8)(x:List UInt8):dgt (c::x)=if c=48 then(if x=[] then[48] else dgt x) else c::x:=by
 unfold dgt;by_cases h:c=48
 ·subst h;cases x with
  |nil=>simp
  |cons d x=>simp
 ·simp[h]
def e120(x:List UInt8)(a:x.length<1000000):E 150 [.str x] [] (.str (dgt x)) []:=by
 refine r120 ?_
 have b:∀(n:Nat) (x:List UInt8),x.length=n->n<1000000->LL kM 0 [(0,some (.str x))] [] (.exit 0) [(0,some (.str (dgt x)))] []:=by
  intro n
  induction n with
  |zero=>
   intro x a _;have:x=[]:=Ak.1 a;subst this;exact Mo (by simp)
  |succ n i=>
   intro x a j;cases x with
   |nil=>simp at a
   |cons c x=>
    rw[xX];by_cases f:c=48
    ·subst f;rw[if_pos rfl];cases x with
     |nil=>exact Mo (by simp)
     |cons d x=>
      rw[if_neg (by simp)]
      refine V9 (c2:=48) (s2:=d::x) (by simp;omega) rfl rfl ?_ (i (d::x) (by simpa using a) am)
      have h:(1:Int)<=((((48:UInt8)::d::x).length:Nat):Int):=by simp;omega
      simp[BM,AQ,QP,h];simpa using h
    ·rw[if_neg f];by_cases g:x=[]
     ·subst g;exact Mo (by simp)
     ·have:=Cv.2 g;refine Zx (c2:=c) (by simp;omega) rfl ?_
      intro e;apply f;have:c.toNat=48:=am
      exact UInt8.toNat_inj.1 this
 exact b _ x rfl a
def xV(a:List (List UInt8))(x:List UInt8)(p:a.length<1000):E 152 [slF 1 (a.map PV.str),.str x] [] (.bool (a.contains x)) []:=by
 have k:∀(n j:Nat),j+n=a.length->(∀i,i<j->a[i]?≠some x)->
   (LL a152 0 [(0,some (slF 1 (a.map PV.str))),(1,some (.str x)),(5,some (N j))] [] .ret [(4,some (.bool true))] []/\a.contains x=true) \/
   (LL a152 0 [(0,some (slF 1 (a.map PV.str))),(1,some (.str x)),(5,some (N j))] [] (.exit 0) [] []/\a.contains x=false):=by
  intro n
  induction n with
  |zero=>
   intro j o h;refine .inr ⟨Zz am,?_⟩
   rw[<-FK,CR,BP]
   rintro⟨i,hi⟩
   have:=(Ad.1 hi).1;exact h i am hi
  |succ n m=>
   intro j o h;have f:j<a.length:=am
   have g:=Af f;by_cases d:a[j]=x
   ·refine .inl ⟨Zy am g d,?_⟩
    rw[CR,<-d];exact Cg f
   ·rcases m (j+1) am (λi hi=>by
     rcases Be i j with l | l
     ·exact h i l
     ·have:i=j:=am
      subst this;rw[g];intro e;exact d (Option.some.inj e)) with⟨b,c⟩ | ⟨b,c⟩
    ·exact .inl ⟨Oe am g d am b,c⟩
    ·exact .inr ⟨Oe am g d am b,c⟩
 rcases k a.length 0 am (λi h=>am) with⟨b,c⟩ | ⟨b,c⟩
 ·rw[c];exact AWW b
 ·rw[c];exact AWX b
section
variable{s:List UInt8}{ls:List Tk}{m:Nat}{k f:Nat}{D:List AD}{c:NT->Nat->List AD->LF}{r:Rs×Nat×List AD}{p q:Pg}
def v29(H:CG s ls m){e:Nat}{t:List UInt8}(h:G4 s ls m c r (.report e t p) k D):E 41 [rf,N e,.str t] (RS4 s ls k D) (.tuple []) (RS4 s ls k (rp D e k t))/\G4 s ls m c r p k (rp D e k t):=
 ⟨u29 H h.le h.ok e t,h.rep⟩
def Wz(H:CG s ls m)(h:G4 s ls m c r (.read p) k D):E 42 [rf] (RS4 s ls k D) (.str (wAt s ls k).2) (RS4 s ls (k+1) D)/\G4 s ls m c r p (k+1) D:=by
 obtain⟨a,b⟩:=h.read (w5 H);exact⟨u30 H a,b⟩
def vrd(H:CG s ls m){g:List UInt8->Pg}(h:G4 s ls m c r (Pg.rd g) k D):E 42 [rf] (RS4 s ls k D) (.str (wAt s ls k).2) (RS4 s ls (k+1) D)/\G4 s ls m c r (g (wAt s ls k).2) (k+1) D:=by
 obtain⟨a,b⟩:=h.rd (w5 H);exact⟨u30 H a,b⟩
def acT(H:CG s ls m)(a:k<m)(x:List UInt8)(d:[x].contains (wAt s ls k).2=true)(b:x≠[]:=by simp):E 85 [rf,.str x] (RS4 s ls k D) (.bool true) (RS4 s ls (k+1) D):=
 BvV (EK H (DJ a) x d b) (u30 H a)
def acF(H:CG s ls m)(b:k<=m)(x:List UInt8)(d:[x].contains (wAt s ls k).2=false)(a:x≠[]:=by simp):E 85 [rf,.str x] (RS4 s ls k D) (.bool false) (RS4 s ls k D):=
 BvU (EK H b x d a)
def vac(H:CG s ls m)(x:List UInt8)(h:G4 s ls m c r (Pg.ifW [x] (.read p) q) k D)(d:x≠[]:=by simp):
  (E 85 [rf,.str x] (RS4 s ls k D) (.bool true) (RS4 s ls (k+1) D)/\G4 s ls m c r p (k+1) D/\[x].contains (wAt s ls k).2=true)\/(E 85 [rf,.str x] (RS4 s ls k D) (.bool false) (RS4 s ls k D)/\G4 s ls m c r q k D/\[x].contains (wAt s ls k).2=false):=by
 rcases h.ifW with⟨a,h⟩ | ⟨a,h⟩
 ·have b:=(h.read (w5 H));exact .inl ⟨acT H b.1 x a d,b.2,a⟩
 ·exact .inr ⟨acF H h.le x a d,h,a⟩
def vxp(H:CG s ls m)(x:List UInt8)(h:G4 s ls m c r (Pg.xp x p) k D)(j:x≠[]:=by simp):
  ∃d g b,k<=d/\E 83 [rf,.str x] (RS4 s ls k D) (.bool b) (RS4 s ls d g)/\G4 s ls m c r p d g:=by
 rcases vac H x h j with⟨a,e,_⟩ | ⟨a,e,_⟩
 ·exact⟨_,_,_,am,AkK a,e⟩
 ·obtain⟨l,i⟩:=v29 H e;exact⟨_,_,_,Ai _,AkJ a l,i⟩
def vnm(H:CG s ls m){g:List UInt8->Pg}(h:G4 s ls m c r (Pg.nm g) k D):∃x a d,k<=a/\E 82 [rf] (RS4 s ls k D) (.str x) (RS4 s ls a d)/\G4 s ls m c r (g x) a d:=by
 rcases h.ifK with⟨l,h⟩ | ⟨l,h⟩
 ·obtain⟨e,b⟩:=vrd H h;exact⟨_,_,_,am,Bw0 (u25 H (by have:=b.le;omega)) am e,b⟩
 ·obtain⟨i,j⟩:=v29 H h;exact⟨_,_,_,Ai _,BvZ (u25 H h.le) am i,j⟩
def jZ{x y:List UInt8}(h:[x].contains y=true):y=x:=by simpa using h
def ne_w{x y z:List UInt8}(h:[x].contains z=true)(a:[y].contains x=false):[y].contains z=false:=by rw[jZ h];exact a
def vwr(H:CG s ls m){g:AT->Pg}(h:G4 s ls m c r (written g) k D):∃x i t,k<=i/\E 87 [rf] (RS4 s ls k D) (trR ls x).pv (RS4 s ls i t)/\G4 s ls m c r (g x) i t:=by
 rcases vac H [58] h with⟨e,h,_⟩ | ⟨e,h,_⟩
 ·have a:k+1<=m:=h.le;have h:=h.mrk;have A:=h.ok;rcases vac H NY h with⟨a2,h,v⟩ | ⟨a2,h,v⟩
  ·have l:=acF (D:=D) H a Km (ne_w v (by decide))
   rcases vac H [91] h with⟨d,h,_⟩ | ⟨d,h,_⟩
   ·rcases G3.ifK (show G4 s ls m c r (Pg.ifK 2 (Pg.rd λx=>Pg.xp [93] (Pg.bd 10 (dgt x) (k+1) false [] g)) (.report 4 kQ (Pg.xp [93] (Pg.bd 10 [] (k+1) false [] g)))) (k+1+1+1) D from h) with⟨n,h⟩ | ⟨n,h⟩
    ·have o:=h.le;obtain⟨a4,h⟩:=vrd H h;obtain⟨w,y,b,z,a5,h⟩:=vxp H [93] h;exact⟨_,_,_,am,WM e (AY3 ldK l a2 d (u25 H o) am a4 (e120 _ (XO H _)) a5 (Nf H am h.le 10 _ false)),h.bd⟩
    ·obtain⟨a4,j⟩:=v29 H h;obtain⟨w,y,b,z,a5,u⟩:=vxp H [93] j;exact⟨_,_,_,am,WM e (AY2 ldK l a2 d (u25 H h.le) am a4 a5 (Nf H am u.le 10 _ false)),u.bd⟩
   ·exact⟨_,_,_,am,WM e (AY6 ldK l a2 d (Nf H am h.le 9 NY false)),h.bd⟩
  ·rcases vac H Km h with⟨d,h,_⟩ | ⟨d,h,_⟩
   ·exact⟨_,_,_,am,WM e (AY7 ldK d (Nf H am h.le 9 Km false)),h.bd⟩
   ·rcases h.ifK with⟨n,h⟩ | ⟨n,h⟩
    ·obtain⟨a4,h⟩:=vrd H h;exact⟨_,_,_,am,WM e (AY5 ldK d a2 (u25 H a) am a4 (Nf H am h.le 9 _ false)),h.bd⟩
    ·obtain⟨a4,j⟩:=v29 H h;exact⟨_,_,_,am,WM e (AY4 ldK d a2 (u25 H a) am a4 (Nf H (Ai _) a 1 [] false)),j.mrk.bd⟩
 ·exact⟨_,_,_,Ai _,BvR e ldK (Nf H (Ai _) h.le 0 [] false),h.mrk.bd⟩
def ZU{x y z:List UInt8}(h:[x,y].contains z=false):[x].contains z=false/\[y].contains z=false:=by
 simp only[BO,Cr,Db,Ea] at h ⊢;exact h
def xx{x y z:List UInt8}(h:[x,y].contains z=true)(a:[x].contains z=false):[y].contains z=true:=by
 simp only[BO,Cr,Db,Dk] at h a ⊢;rw[a] at h;simpa using h
def qP(H:CG s ls m){g:AT->Pg}(h:G4 s ls m c r (QL g) k D):∃x d l,k<=d/\E 84 [rf] (RS4 s ls k D) (trR ls x).pv (RS4 s ls d l)/\G4 s ls m c r (g x) d l:=by
 obtain⟨x,d,l,v,j,h⟩:=vnm H h.mrk;obtain⟨n,u,b,w,a2,h⟩:=vxp H [58] h;have a:=h.le;rcases h.ifW with⟨i,h⟩ | ⟨i,h⟩
 ·obtain⟨e,h⟩:=vrd H h.mrk;cases hi:[NY].contains (wAt s ls n).2 with
  |true=>exact⟨_,_,_,am,BvY ldK j a2 ldK (EK H a NY hi) e (Nf H am h.le 9 _ false) (QD H am h.le 4 x false [_]),h.bd.bd⟩
  |false=>exact⟨_,_,_,am,BvX ldK j a2 ldK (EK H a NY hi) (EK H a Km (xx i hi)) e (Nf H am h.le 9 _ false) (QD H am h.le 4 x false [_]),h.bd.bd⟩
 ·obtain⟨o,t⟩:=ZU i;obtain⟨e,h⟩:=v29 H h;exact⟨_,_,_,am,BvW ldK j a2 ldK (EK H a NY o) (EK H a Km t) e (Nf H (Ai _) h.le 1 [] false) (QD H am h.le 4 x false [_]),h.mrk.bd.bd⟩
def qN(H:CG s ls m){g:AT->Pg}(h:G4 s ls m c r (Qx g) k D):∃x a b,k<=a/\E 138 [rf] (RS4 s ls k D) (trR ls x).pv (RS4 s ls a b)/\G4 s ls m c r (g x) a b:=by
 rcases vac H Ow h.mrk with⟨e,h,_⟩ | ⟨e,h,_⟩
 ·obtain⟨x,a,b,n,a2,h⟩:=vnm H h;obtain⟨t,i,l,j,d,h⟩:=vwr H h;exact⟨_,_,_,am,AY9 ldK e a2 d (QD H am h.le 8 x false [_]),h.bd⟩
 ·obtain⟨x,a,b,n,a2,h⟩:=vnm H h;obtain⟨t,i,l,j,d,h⟩:=vwr H h;exact⟨_,_,_,am,AY8 ldK e a2 d (QD H am h.le 7 x false [_]),h.bd⟩
def BxS(H:CG s ls m){g:AT->Pg}(h:G4 s ls m c r (Jq g) k D):∃x a b,k<=a/\E 151 [rf] (RS4 s ls k D) (trR ls x).pv (RS4 s ls a b)/\G4 s ls m c r (g x) a b:=by
 obtain⟨x,a,b,e,d,h⟩:=vnm H h.mrk;exact⟨_,_,_,am,r121 ldK d (Nf H am h.le 20 x false),h.bd⟩
end
end Go.Abs.Z

namespace Go.Abs.Z
open Go.Proofs Go.RowKit
abbrev slO(us:List Tr):PV:=.slice true 5 (Tr.pvs us)
def ER(s:List UInt8)(ls:List Tk)(n:Nat):NT->Nat->List AD->Rs->Nat->List AD->Prop
 |.ex L,k,D,v,d,c=>(L=1\/L=2\/L=3\/L=5\/L=6\/L=7)->E 53 [rf,N L] (RS4 s ls k D) (trR ls v.1).pv (RS4 s ls d c)
 |.lp L f x,k,D,v,d,c=>(L=1\/L=2\/L=5\/L=6)->f<=k->
   LL a53 0 [(0,some rf),(1,some (N L)),(4,some Z0),(5,some (N f)),(8,some (trR ls x).pv)] (RS4 s ls k D) (.exit 1)
    [(0,some rf),(1,some (N L)),(4,some Z0),(5,some (N f)),(8,some (trR ls v.1).pv)] (RS4 s ls d c)
 |.tl e b,k,D,v,d,c=>b≠[]->b.length+n<=I9->v.2≠[]/\match e with
  |.ex=>(∀a:Nat,LL kN 0 [(0,some rf),(2,some Z0),(3,some (N a)),(6,some (slO (Fs ls b)))] (RS4 s ls k D) (.exit 1) [(0,some rf),(2,some Z0),(3,some (N a)),(6,some (slO (Fs ls v.2)))] (RS4 s ls d c))/\
    LL a107 0 [(0,some rf),(3,some (slO (Fs ls b)))] (RS4 s ls k D) (.exit 0) [(0,some rf),(3,some (slO (Fs ls v.2)))] (RS4 s ls d c)
  |.fd=>∀(a:Nat) (x:List UInt8),LL a39 0 [(0,some rf),(2,some Z0),(3,some (N a)),(4,some (.str x)),(5,some (slO (Fs ls b)))] (RS4 s ls k D) (.exit 0) [(0,some rf),(2,some Z0),(3,some (N a)),(4,some (.str x)),(5,some (slO (Fs ls v.2)))] (RS4 s ls d c)
  |.pa=>∀a:Nat,LL a86 0 [(0,some rf),(2,some Z0),(3,some (N a)),(4,some (slO (Fs ls b)))] (RS4 s ls k D) (.exit 0) [(0,some rf),(2,some Z0),(3,some (N a)),(4,some (slO (Fs ls v.2)))] (RS4 s ls d c)
 |.bk,k,D,v,d,c=>E 88 [rf] (RS4 s ls k D) (trR ls v.1).pv (RS4 s ls d c)
 |.sts b,k,D,v,d,c=>b.length+n<=I9->∀a:Nat,
   LL a88 0 [(0,some rf),(2,some Z0),(3,some (N a)),(4,some (slO (Fs ls b)))] (RS4 s ls k D) (.exit 0) [(0,some rf),(2,some Z0),(3,some (N a)),(4,some (slO (Fs ls v.2)))] (RS4 s ls d c)
 |.st,k,D,v,d,c=>E 55 [rf] (RS4 s ls k D) (trR ls v.1).pv (RS4 s ls d c)
 |.br,k,D,v,d,c=>[wIf].contains (wAt s ls k).2=true->E 104 [rf] (RS4 s ls k D) (trR ls v.1).pv (RS4 s ls d c)
 |.sk f,k,D,_,d,c=>LL a109 0 [(0,some rf),(2,some Z0),(3,some (N f))] (RS4 s ls k D) (.exit 0) [(0,some rf),(2,some Z0),(3,some (N f))] (RS4 s ls d c)
 |.sp,k,D,_,d,c=>∀(a:Nat) (us:List Tr),
   LL a11 1 [(0,some (.str s)),(2,some Z0),(5,some rf),(6,some (slO us)),(7,some (N a))] (RS4 s ls k D) (.exit 3) [(0,some (.str s)),(2,some Z0),(5,some rf),(6,some (slO us)),(7,some (N a))] (RS4 s ls d c)
 |.pg b,k,D,v,d,c=>b.length+n<=I9->
   LL a11 0 [(0,some (.str s)),(2,some Z0),(5,some rf),(6,some (slO (Fs ls b)))] (RS4 s ls k D) (.exit 0) [(0,some (.str s)),(2,some Z0),(5,some rf),(6,some (slO (Fs ls v.2)))] (RS4 s ls d c)
def OkR(s:List UInt8)(ls:List Tk)(m:Nat)(n:Nat)(c:NT->Nat->List AD->LF):Prop:=
 OkI m c/\∀x k D v b a,c x k D=some (v,b,a)->k<=m->Dok k D->ER s ls n x k D v b a
section
variable{s:List UInt8}{ls:List Tk}{m n:Nat}{k f:Nat}{D:List AD}{c:NT->Nat->List AD->LF}{r:Rs×Nat×List AD}{p q:Pg}
def vex(d:OkR s ls m n c)(L:Nat)(j:L=1\/L=2\/L=3\/L=5\/L=6\/L=7){g:AT->Pg}(h:G4 s ls m c r (Pg.cl (.ex L) g) k D):
  ∃x a b,k<=a/\E 53 [rf,N L] (RS4 s ls k D) (trR ls x).pv (RS4 s ls a b)/\G4 s ls m c r (g x) a b:=by
 obtain⟨v,a,b,e,i,l⟩:=h.cl d.1;exact⟨v.1,a,b,i,d.2 _ _ _ _ _ _ e h.le h.ok j,l⟩
def ve1(d:OkR s ls m n c){g:AT->Pg}(h:G4 s ls m c r (Pg.cl (.ex 1) g) k D):
  ∃x a b,k<=a/\E 53 [rf,I 1] (RS4 s ls k D) (trR ls x).pv (RS4 s ls a b)/\G4 s ls m c r (g x) a b:=vex d 1 (by simp) h
def vbk(d:OkR s ls m n c){g:AT->Pg}(h:G4 s ls m c r (Pg.cl .bk g) k D):
  ∃x a b,k<=a/\E 88 [rf] (RS4 s ls k D) (trR ls x).pv (RS4 s ls a b)/\G4 s ls m c r (g x) a b:=by
 obtain⟨v,a,b,e,j,i⟩:=h.cl d.1;exact⟨v.1,a,b,j,d.2 _ _ _ _ _ _ e h.le h.ok,i⟩
def Aj8(j:OkR s ls m n c)(B:n+1<=I9){g:List AT->Pg}(h:G4 s ls m c r (Px .ex g) k D):
  ∃U l b e d i,k<=b/\b<=d/\l≠[]/\E 53 [rf,I 1] (RS4 s ls k D) (trR ls U).pv (RS4 s ls b e)/\
   ((∀a:Nat,LL kN 0 [(0,some rf),(2,some Z0),(3,some (N a)),(6,some (slO (Fs ls [U])))] (RS4 s ls b e) (.exit 1) [(0,some rf),(2,some Z0),(3,some (N a)),(6,some (slO (Fs ls l)))] (RS4 s ls d i))/\
    LL a107 0 [(0,some rf),(3,some (slO (Fs ls [U])))] (RS4 s ls b e) (.exit 0) [(0,some rf),(3,some (slO (Fs ls l)))] (RS4 s ls d i))/\G4 s ls m c r (g l) d i:=by
 obtain⟨x,b,e,u,z,h⟩:=ve1 j (g:=λx=>.call (.tl .ex [x]) λr=>g r.2) h
 obtain⟨v,d,i,A,y,t⟩:=h.call j.1;obtain⟨w,o⟩:=j.2 _ _ _ _ _ _ A h.le h.ok (by simp) (by simp;omega)
 exact⟨x,v.2,b,e,d,i,u,y,w,z,o,t⟩
def Aj9(H:CG s ls m)(z:OkR s ls m n c)(x:n+1<=I9){g:List AT->Pg}(h:G4 s ls m c r (UR g) k D):
  ∃l d j,k<=d/\E 107 [rf] (RS4 s ls k D) (slF 5 (Tr.pvs (Fs ls l))) (RS4 s ls d j)/\G4 s ls m c r (g l) d j:=by
 obtain⟨u,h⟩:=Wz H h;have a:=h.le;rcases h.ifW with⟨e,h⟩ | ⟨e,h⟩
 ·obtain⟨t,o,b,v,i,h⟩:=vxp H [41] h;exact⟨[],t,o,am,BkO u (EK H a [41] e) i,h⟩
 ·obtain⟨U,l,t,o,F,B,v,G,A,i,a4,h⟩:=Aj8 z x h;obtain⟨w,y,b,C,a5,h⟩:=vxp H [41] h;exact⟨l,w,y,am,BkN u (EK H a [41] e) i a4.2 a5,h⟩
def qM(H:CG s ls m)(l:OkR s ls m n c){g:AT->Pg}(h:G4 s ls m c r (OG g) k D):
  ∃x d e,k<=d/\E 108 [rf] (RS4 s ls k D) (trR ls x).pv (RS4 s ls d e)/\G4 s ls m c r (g x) d e:=by
 obtain⟨v,d,e,z,i,h⟩:=BxS H h.mrk;rcases vac H [91] h with⟨a2,h,_⟩ | ⟨a2,h,_⟩
 ·obtain⟨y,j,o,t,a,h⟩:=ve1 l h;obtain⟨u,w,b,A,a4,h⟩:=vxp H [93] h;exact⟨_,_,_,am,BkM ldK i a2 a a4 (QD H am h.le 21 [] false [_,_]),h.bd⟩
 ·rcases vac H [46] h with⟨a,h,_⟩ | ⟨a,h,_⟩
  ·obtain⟨x,j,o,t,a4,h⟩:=vnm H h;exact⟨_,_,_,am,BkL ldK i a2 a a4 (QD H am h.le 22 x false [_]),h.bd⟩
  ·exact⟨_,_,_,am,BkK ldK i a2 a,h⟩
def ze(H:CG s ls m)(e:OkR s ls m n c)(B:n+1<=I9){g:AT->Pg}(h:G4 s ls m c r (Pd g) k D):
  ∃x a d,k<=a/\E 39 [rf] (RS4 s ls k D) (trR ls x).pv (RS4 s ls a d)/\G4 s ls m c r (g x) a d:=by
 obtain⟨t,h⟩:=Wz H h.mrk;obtain⟨x,a,d,K,a2,h⟩:=vnm H h;obtain⟨w,J,b,I,o,h⟩:=vxp H [123] h;obtain⟨U,M,z,y,a4,h⟩:=qP (g:=λx=>.call (.tl .fd [x]) λr=>_) H h
 obtain⟨v,G,C,u,F,i⟩:=h.call e.1;obtain⟨j,l⟩:=e.2 _ _ _ _ _ _ u h.le h.ok (by simp) (by simp;omega)
 obtain⟨L,A,b,N,a5,h⟩:=vxp H [125] i;exact⟨_,_,_,am,r27 ldK t a2 o a4 (l k x) a5 (QD H am h.le 3 x false v.2 j),h.bd⟩
def zf(H:CG s ls m)(j:OkR s ls m n c)(F:n+1<=I9){g:AT->Pg}(h:G4 s ls m c r (Pk g) k D):
  ∃x d e,k<=d/\E 86 [rf] (RS4 s ls k D) (trR ls x).pv (RS4 s ls d e)/\G4 s ls m c r (g x) d e:=by
 obtain⟨d,e,b,L,l,h⟩:=vxp H [40] h.mrk;have a:=h.le;rcases h.ifW with⟨i,h⟩ | ⟨i,h⟩
 ·obtain⟨y,K,b,A,a2,h⟩:=vxp H [41] h;exact⟨_,_,_,am,BvT ldK l (EK H a [41] i) a2 (BZ3 H am h.le 6 []),h.bd⟩
 ·obtain⟨U,N,B,O,a4,h⟩:=qN (g:=λx=>.call (.tl .pa [x]) λr=>_) H h
  obtain⟨v,J,G,w,I,o⟩:=h.call j.1;obtain⟨t,u⟩:=j.2 _ _ _ _ _ _ w h.le h.ok (by simp) (by simp;omega)
  obtain⟨M,C,b,z,a5,h⟩:=vxp H [41] o;exact⟨_,_,_,am,BvS ldK l (EK H a [41] i) a4 (u k) a5 (QD H am h.le 6 [] true v.2 t),h.bd⟩
def BxT(H:CG s ls m)(i:OkR s ls m n c)(o:n+1<=I9){g:AT->Pg}(h:G4 s ls m c r (eO g) k D):
  ∃x d e,k<=d/\E 40 [rf] (RS4 s ls k D) (trR ls x).pv (RS4 s ls d e)/\G4 s ls m c r (g x) d e:=by
 obtain⟨l,h⟩:=Wz H h.mrk;obtain⟨x,d,e,F,a2,h⟩:=vnm H h;obtain⟨a,u,C,w,j,h⟩:=zf H i o h;obtain⟨t,B,v,G,a4,h⟩:=vwr H h;obtain⟨b,A,y,z,a5,h⟩:=vbk i h;exact⟨_,_,_,am,r28 ldK l a2 j a4 a5 (QD H am h.le 5 x false [_,_,_]),h.bd⟩
def iG(H:CG s ls m)(a:f<=k){kd:Nat}{tx:List UInt8}(h:G4 s ls m c r (Pg.nod kd tx f []) k D)(b:kdE kd=false:=by rfl):∃x,r=((x,[]),k,D)/\E 43 [rf,N f,N kd,.str tx,.nils] (RS4 s ls k D) (trR ls x).pv (RS4 s ls k D):=
 ⟨_,h.bd.ret,Nf H a h.le kd tx true (by rw[b];rfl)⟩
def iF(H:CG s ls m)(a:f<=k){kd:Nat}{tx:List UInt8}{us:List AT}(h:G4 s ls m c r (Pg.nod kd tx f us) k D)(b:kdE kd=true:=by rfl):∃x,r=((x,[]),k,D)/\E 43 [rf,N f,N kd,.str tx,slF 5 (Tr.pvs (Fs ls us))] (RS4 s ls k D) (trR ls x).pv (RS4 s ls k D):=by
 refine⟨_,h.bd.ret,?_⟩
 cases us with
 |nil=>exact BZ3 H a h.le kd tx b
 |cons u us=>exact QD H a h.le kd tx true (u::us)
def IE(H:CG s ls m)(b:f<=k){kd:Nat}{tx:List UInt8}{us:List AT}(a:us≠[])(h:G4 s ls m c r (Pg.nod kd tx f us) k D):
  ∃x,r=((x,[]),k,D)/\E 43 [rf,N f,N kd,.str tx,slF 5 (Tr.pvs (Fs ls us))] (RS4 s ls k D) (trR ls x).pv (RS4 s ls k D):=
 ⟨_,h.bd.ret,QD H b h.le kd tx true us a⟩
def v72(H:CG s ls m)(g:k<=m)(L:Nat)(e:L=1\/L=2\/L=4\/L=5\/L=6){b:Bool}(h:(opL L).contains (wAt s ls k).2=b):E 103 [rf,N L] (RS4 s ls k D) (.bool b) (RS4 s ls k D):=by
 have a:=u25 (D:=D) H g;have a2:=u56 (D:=D) H g;have d:=xV (opL L) (wAt s ls k).2 (by rcases e with rfl | rfl | rfl | rfl | rfl<;>decide)
 rw[h] at d;by_cases i:(wAt s ls k).1=5
 ·have:=H5 H g i;subst this;rw[H.end'] at h;have:b=false:=by rw[<-h];rcases e with rfl | rfl | rfl | rfl | rfl<;>rfl
  rw[this];rcases e with rfl | rfl | rfl | rfl | rfl
  ·exact AqV a am
  ·exact AqT a am
  ·exact AqR a am
  ·exact AqP a am
  ·exact AqN a am
 ·rcases e with rfl | rfl | rfl | rfl | rfl
  ·exact AqW a am a2 d
  ·exact AqU a am a2 d
  ·exact AqS a am a2 d
  ·exact AqQ a am a2 d
  ·exact AqO a am a2 d
def BUQ(H:CG s ls m)(d:OkR s ls m n c)(h:G4 s ls m c r wM k D):E 53 [rf,I 4] (RS4 s ls k D) (trR ls r.1.1).pv (RS4 s ls r.2.1 r.2.2):=by
 obtain⟨x,w,A,u,g,h⟩:=vex d 5 (by simp) h.mrk
 have a:=h.le;rcases h.ifW with⟨b,h⟩ | ⟨b,h⟩
 ·obtain⟨a2,h⟩:=vrd H h;obtain⟨y,o,z,t,i,h⟩:=vex d 5 (by simp) h
  obtain⟨v,l,j⟩:=IE H (f:=k) am (by simp) h
  rw[l];exact Ax1 ldK g (Vf (v72 H a 4 (by simp) b) a2 i j)
 ·have e:=h.ret;rw[e];exact Ax2 ldK g (Ve (v72 H a 4 (by simp) b))
def v85(H:CG s ls m)(b:k<m):E 106 [rf] (RS4 s ls k D) (.str (wAt s ls (k+1)).2) (RS4 s ls k D):=by
 obtain⟨t,a⟩:=H.at (k:=k+1) am
 have:=H.big;have:=H.len;rw[JU a];exact BkP am am a (u65 H a)
def BxU(H:CG s ls m)(w:OkR s ls m n c)(K:n+1<=I9)(h:G4 s ls m c r eQ k D):E 102 [rf] (RS4 s ls k D) (trR ls r.1.1).pv (RS4 s ls r.2.1 r.2.2):=by
 have o:=h.le;have d:=u25 (D:=D) H o;rcases h.mrk.ifK with⟨I,h⟩ | ⟨I,h⟩
 ·obtain⟨a2,h⟩:=vrd H h;obtain⟨A,g,a⟩:=iG H (f:=k) am h
  rw[g];exact BvK ldK d am a2 (e120 _ (XO H k)) a
 rcases h.ifW with⟨F,h⟩ | ⟨F,h⟩
 ·obtain⟨a2,h⟩:=vrd H h;obtain⟨A,g,a⟩:=iG H (f:=k) am h
  rw[g];cases hi:[IP].contains (wAt s ls k).2 with
  |true=>exact BvJ ldK d am (EK H o IP hi) a2 a
  |false=>exact BvI ldK d am (EK H o IP hi) (EK H o Ho (xx F hi)) a2 a
 obtain⟨P,N⟩:=ZU F;have a2:=EK (D:=D) H o IP P;have t:=EK (D:=D) H o Ho N;have h:=h.look;by_cases i:(wAt s ls k).1=0
 ·have C:=H.lt o am
  have a5:=v85 (D:=D) H C;by_cases y:(wAt s ls (k+1)).2=[40]
  ·rw[if_pos ⟨i,y⟩] at h;obtain⟨a6,h⟩:=vrd H h;obtain⟨l,z,B,u,a7,h⟩:=Aj9 H w K h;obtain⟨A,g,a⟩:=iF H (f:=k) am h
   rw[g];exact BvH ldK d am a2 t am a5 y a6 a7 a
  ·rw[if_neg (λx=>y x.2),if_pos i] at h
   obtain⟨x,z,B,u,a6,h⟩:=qM H w h;have e:=h.ret;rw[e];exact BvG ldK d am a2 t am a5 y a6
 ·rw[if_neg (λx=>i x.1),if_neg i] at h
  rcases vac H [91] h with⟨a5,h,_⟩ | ⟨a5,h,_⟩
  ·obtain⟨U,l,I,T,z,B,Q,u,O,a6,a7,h⟩:=Aj8 w K h;obtain⟨J,M,b,L,j,h⟩:=vxp H [93] h;obtain⟨A,g,a⟩:=IE H (f:=k) am O h
   rw[g];exact BvF ldK d am a2 t am a5 a6 (a7.1 k) j a
  ·rcases vac H Oy h with⟨a6,h,_⟩ | ⟨a6,h,_⟩
   ·obtain⟨z,B,b,u,a7,h⟩:=vxp H [40] h;obtain⟨v,J,M,L,j,h⟩:=BxS H h;obtain⟨V,R,b,S,a9,h⟩:=vxp H [41] h;obtain⟨A,g,a⟩:=IE H (f:=k) am (by simp) h
    rw[g];exact BvE ldK d am a2 t am a5 a6 a7 j a9 a
   ·rcases vac H [40] h with⟨a7,h,_⟩ | ⟨a7,h,_⟩
    ·obtain⟨x,z,B,u,j,h⟩:=ve1 w h;obtain⟨J,M,b,L,a9,h⟩:=vxp H [41] h;have e:=h.ret;rw[e];exact BvD ldK d am a2 t am a5 a6 a7 j a9
    ·obtain⟨j,h⟩:=v29 H h;have G:=h.le;have e:=h.mrk.bd.ret;rw[e];exact BvC ldK d am a2 t am a5 a6 a7 j (Nf H (Ai _) G 1 [] false)
end
section
variable{s:List UInt8}{ls:List Tk}{m n:Nat}{k f:Nat}{D:List AD}{c:NT->Nat->List AD->LF}{r:Rs×Nat×List AD}{p q:Pg}
def XQ(H:CG s ls m)(a:k<=m){b:Bool}(e:(decide ((wAt s ls k).1=5)||J2.contains (wAt s ls k).2)=b):E 140 [rf] (RS4 s ls k D) (.bool b) (RS4 s ls k D):=by
 have h:=u25 (D:=D) H a;by_cases i:(wAt s ls k).1=5
 ·have:b=true:=by rw[<-e,decide_eq_true i];rfl
  rw[this];exact AY1 h am
 ·rw[decide_eq_false i,CS] at e;cases d:[[125]].contains (wAt s ls k).2 with
  |true=>
   have:b=true:=by rw[<-e,jZ d];rfl
   rw[this];exact AY0 h am (EK H a [125] d)
  |false=>
   cases g:[IQ].contains (wAt s ls k).2 with
   |true=>
    have:b=true:=by rw[<-e,jZ g];rfl
    rw[this];exact AWZ h am (EK H a [125] d) (EK H a IQ g)
   |false=>
    refine AWY h am (EK H a [125] d) (EK H a IQ g) (EK H a LG ?_)
    rw[<-e];simp only[J2,BO,Cr,Db] at d g ⊢;rw[d,g];rfl
def BzX(H:CG s ls m)(a:k<=m){b:Bool}(e:aL.contains (wAt s ls k).2=b):E 154 [rf] (RS4 s ls k D) (.bool b) (RS4 s ls k D):=by
 have j:=u25 (D:=D) H a;by_cases d:(wAt s ls k).1=1
 ·have g:=xV aL (wAt s ls k).2 (by decide)
  rw[e] at g;exact AWH j am (u56 H a) g
 ·have:b=false:=by
   rw[<-e];cases h:aL.contains (wAt s ls k).2 with
   |false=>rfl
   |true=>
    obtain⟨t,i⟩:=H.at a;rw[JU i] at h d;exact absurd (H.kw k t i h) d
  rw[this];exact AWG j am
def bJ{w:List UInt8}(h:J2.contains w=false):MS.contains w=aL.contains w:=by
 simp only[MS,J2,aL,BO,Cr,Db] at h ⊢;simp only[Ea] at h;rw[h.1,h.2.1,h.2.2];simp
def iY{w:List UInt8}(h:MS.contains w=false):J2.contains w=false/\aL.contains w=false:=by
 simp only[MS,J2,aL,BO,Cr,Db,Ea] at h ⊢;exact⟨⟨h.1,h.2.1,h.2.2.1⟩,h.2.2.2⟩
def v84(H:CG s ls m)(a:k<=m){b:Bool}(d:((wAt s ls k).1==0||(wAt s ls k).1==2||[IP,Ho,Oy,[40],[91]].contains (wAt s ls k).2)=b):E 105 [rf] (RS4 s ls k D) (.bool b) (RS4 s ls k D):=by
 have h:=u25 (D:=D) H a;by_cases l:(wAt s ls k).1=0
 ·have:b=true:=by rw[<-d,l];rfl
  rw[this];exact BkW h am
 by_cases o:(wAt s ls k).1=2
 ·have:b=true:=by rw[<-d,o];rfl
  rw[this];exact BkV h am am
 have t:((wAt s ls k).1==0)=false:=by simpa using l
 have u:((wAt s ls k).1==2)=false:=by simpa using o
 rw[t,u,CS,CS] at d;cases e:[IP].contains (wAt s ls k).2 with
 |true=>
  have:b=true:=by rw[<-d,jZ e];rfl
  rw[this];exact BkU h am am (EK H a IP e)
 |false=>
 cases g:[Ho].contains (wAt s ls k).2 with
 |true=>
  have:b=true:=by rw[<-d,jZ g];rfl
  rw[this];exact BkT h am am (EK H a IP e) (EK H a Ho g)
 |false=>
 cases i:[Oy].contains (wAt s ls k).2 with
 |true=>
  have:b=true:=by rw[<-d,jZ i];rfl
  rw[this];exact BkS h am am (EK H a IP e) (EK H a Ho g) (EK H a Oy i)
 |false=>
 cases j:[[40]].contains (wAt s ls k).2 with
 |true=>
  have:b=true:=by rw[<-d,jZ j];rfl
  rw[this];exact BkR h am am (EK H a IP e) (EK H a Ho g) (EK H a Oy i) (EK H a [40] j)
 |false=>
  refine BkQ h am am (EK H a IP e) (EK H a Ho g) (EK H a Oy i) (EK H a [40] j) (EK H a [91] ?_)
  rw[<-d];simp only[BO,Cr,Db] at e g i j ⊢;rw[e,g,i,j];rfl
def pR(a:Wd):aM a=((a.1==0||a.1==2||[IP,Ho,Oy,[40],[91]].contains a.2)||([Ox].contains a.2||[[45]].contains a.2)):=by
 simp only[aM,kC,BO,Cr,Db];cases a.1==0<;>cases a.1==2<;>cases a.2==IP<;>cases a.2==Ho<;>cases a.2==Ox<;>cases a.2==Oy<;>cases a.2==[45]<;>cases a.2==[40]<;>cases a.2==[91]<;>rfl
def vst(H:CG s ls m)(j:OkR s ls m n c)(hn:n+1<=I9)(h:G4 s ls m c r (prog .st) k D):E 55 [rf] (RS4 s ls k D) (trR ls r.1.1).pv (RS4 s ls r.2.1 r.2.2):=by
 have w:=h.le;rcases h.ifW with⟨X,h⟩ | ⟨X,h⟩
 ·have h:=(h.mrk.read (w5 H));have x0:=acT (D:=D) H h.1 Ow X;obtain⟨x,k1,D1,l1,x1,h⟩:=vnm H h.2;obtain⟨t,N,P,O,i,h⟩:=vwr H h;obtain⟨L,M,R,J,g,h⟩:=vxp H [61] h;obtain⟨v,k4,D4,l4,d,h⟩:=ve1 j h;obtain⟨k5,D5,U,l5,I,h⟩:=vxp H [59] h;obtain⟨y,e,G⟩:=IE H (f:=k) am (by simp) h
  rw[e];exact BwI ldK x0 x1 i g d I G
 have o:=acF (D:=D) H w Ow X;rcases h.ifW with⟨Q,h⟩ | ⟨Q,h⟩
 ·exact BwH ldK o (EK H w wIf Q) (j.2 _ _ _ _ _ _ h.lst h.le h.ok Q)
 have a2:=EK (D:=D) H w wIf Q;rcases h.ifW with⟨R,h⟩ | ⟨R,h⟩
 ·have h:=(h.mrk.read (w5 H));have x0:=acT (D:=D) H h.1 Mg R;obtain⟨u,k1,D1,l1,i,h⟩:=ve1 j h.2;obtain⟨b,N,P,O,g,h⟩:=vbk j h;obtain⟨y,e,d⟩:=IE H (f:=k) am (by simp) h
  rw[e];exact BwG ldK o a2 x0 i g d
 have A:=acF (D:=D) H w Mg R;rcases h.ifW with⟨b4,h⟩ | ⟨b4,h⟩
 ·have h:=(h.mrk.read (w5 H));have x0:=acT (D:=D) H h.1 Sm b4;obtain⟨x,k1,D1,l1,x1,h⟩:=vnm H h.2;obtain⟨N,P,b,O,i,h⟩:=vxp H [61] h;obtain⟨u,L,M,J,g,h⟩:=ve1 j h;obtain⟨k4,D4,b',l4,d,h⟩:=vxp H wTo h;obtain⟨v,k5,D5,l5,I,h⟩:=ve1 j h;obtain⟨b,k6,D6,l6,G,h⟩:=vbk j h;obtain⟨y,e,x7⟩:=IE H (f:=k) am (by simp) h
  rw[e];exact BwF ldK o a2 A x0 x1 i g d I G x7
 have a4:=acF (D:=D) H w Sm b4;rcases h.ifW with⟨U,h⟩ | ⟨U,h⟩
 ·have h:=(h.mrk.read (w5 H));have x0:=acT (D:=D) H h.1 Hd U;have h:=h.2;have a:=h.le;have h:=h.look;have K:=pR (wAt s ls (k+1));have T:=Nf (D:=D) H (f:=k+1) (k:=k+1) (Ai _) a 0 [] false;cases B:aM (wAt s ls (k+1)) with
  |true=>
   rw[B,if_pos rfl] at h;rw[B] at K;obtain⟨x,N,P,O,i,h⟩:=ve1 j h;obtain⟨L,M,b,J,g,h⟩:=vxp H [59] h;obtain⟨y,e,d⟩:=IE H (f:=k) am (by simp) h
   rw[e];cases z:((wAt s ls (k+1)).1==0||(wAt s ls (k+1)).1==2||[IP,Ho,Oy,[40],[91]].contains (wAt s ls (k+1)).2) with
   |true=>exact BwE ldK o a2 A a4 x0 ldK T (v84 H a z) i g d
   |false=>
    rw[z,CS] at K;cases C:[Ox].contains (wAt s ls (k+1)).2 with
    |true=>exact BwC ldK o a2 A a4 x0 ldK T (v84 H a z) (EK H a Ox C) i g d
    |false=>
     rw[C,CS] at K;exact BwA ldK o a2 A a4 x0 ldK T (v84 H a z) (EK H a Ox C) (EK H a [45] K.symm) i g d
  |false=>
   rw[B,if_neg (by simp)] at h
   rw[B] at K;obtain⟨Z,F⟩:=Ea.1 K.symm;obtain⟨F,W⟩:=Ea.1 F;have h:=h.mrk.bd;obtain⟨L,M,b,J,g,h⟩:=vxp H [59] h;obtain⟨y,e,d⟩:=IE H (f:=k) am (by simp) h
   rw[e];exact AKO ldK o a2 A a4 x0 ldK T (v84 H a Z) (EK H a Ox F) (EK H a [45] W) g d
 have a5:=acF (D:=D) H w Hd U;rcases h.ifW with⟨Y,h⟩ | ⟨Y,h⟩
 ·have h:=(h.mrk.read (w5 H));have x0:=acT (D:=D) H h.1 JA Y;obtain⟨x,N,P,O,i,h⟩:=ve1 j h.2;obtain⟨L,M,b,J,g,h⟩:=vxp H [59] h;obtain⟨y,e,d⟩:=IE H (f:=k) am (by simp) h
  rw[e];exact BwD ldK o a2 A a4 a5 x0 i g d
 have a6:=acF (D:=D) H w JA Y;have a7:=u25 (D:=D) H w;rcases h.ifK with⟨b7,h⟩ | ⟨b7,h⟩
 ·have V:=H.lt w am
  have h:=h.mrk.look;have a8:=v85 (D:=D) H V;by_cases S:(wAt s ls (k+1)).2=[40]
  ·rw[if_pos S] at h;obtain⟨i,h⟩:=vrd H h;obtain⟨l,L,M,J,g,h⟩:=Aj9 H j hn h;obtain⟨k4,D4,b,l4,d,h⟩:=vxp H [59] h;obtain⟨y,e,I⟩:=iF H (f:=k) am h
   rw[e];exact AKN ldK o a2 A a4 a5 a6 a7 am a8 S i g d I
  ·rw[if_neg S] at h;obtain⟨x,N,P,O,i,h⟩:=qM H j h;obtain⟨L,M,b,J,g,h⟩:=vxp H [61] h;obtain⟨v,k4,D4,l4,d,h⟩:=ve1 j h;obtain⟨k5,D5,b',l5,I,h⟩:=vxp H [59] h;obtain⟨y,e,G⟩:=IE H (f:=k) am (by simp) h
   rw[e];exact AKM ldK o a2 A a4 a5 a6 a7 am a8 S i g d I G
 obtain⟨G,h⟩:=v29 H h;obtain⟨v,k1,D1,h1,l1,h2⟩:=h.mrk.call j.1;obtain⟨y,e,d⟩:=iG H (f:=k) am h2
 rw[e];exact BwB ldK o a2 A a4 a5 a6 a7 am (r88 ldK G (j.2 _ _ _ _ _ _ h1 h.le h.ok) d)
def AJS{L:Nat}(j:L=1\/L=2\/L=5\/L=6){f:Nat}{x:PV}{e b:Sto}{U V:Tr}{w:List UInt8}{d a:Sto}{W:Tr}
  (g:E 103 [rf,N L] e (.bool true) e) (a2:E 42 [rf] e (.str w) d) (h:E 53 [rf,N (L+1)] d V.pv a) (a4:E 43 [rf,N f,N 29,.str w,slF 5 [U.pv,V.pv]] a W.pv a)
  (i:LL a53 0 [(0,some rf),(1,some (N L)),(4,some Z0),(5,some (N f)),(8,some W.pv)] a (.exit 1) [(0,some rf),(1,some (N L)),(4,some Z0),(5,some (N f)),(8,some x)] b) :
  LL a53 0 [(0,some rf),(1,some (N L)),(4,some Z0),(5,some (N f)),(8,some U.pv)] e (.exit 1) [(0,some rf),(1,some (N L)),(4,some Z0),(5,some (N f)),(8,some x)] b:=by
 rcases j with rfl | rfl | rfl | rfl
 ·exact Tg g a2 h a4 i
 ·exact Tf g a2 h a4 i
 ·exact Te g a2 h a4 i
 ·exact Td g a2 h a4 i
def AJR{L:Nat}(d:L=1\/L=2\/L=5\/L=6){f:Nat}{b:Sto}{U:Tr}(a:E 103 [rf,N L] b (.bool false) b):
  LL a53 0 [(0,some rf),(1,some (N L)),(4,some Z0),(5,some (N f)),(8,some U.pv)] b (.exit 1) [(0,some rf),(1,some (N L)),(4,some Z0),(5,some (N f)),(8,some U.pv)] b:=by
 rcases d with rfl | rfl | rfl | rfl
 ·exact Vh a
 ·exact Vg a
 ·exact Vd a
 ·exact Vb a
def IG(a:List AT)(x:AT):Tr.pvs (Fs ls (a++[x]))=Tr.pvs (Fs ls a++[trR ls x]):=by rw[nL]
def okR(H:CG s ls m):∀n,n<=I9->OkR s ls m n (runN (wAt s ls) n)
 |0,_=>⟨Gt (w5 H) 0,λx k D v X Y h=>by cases h⟩
 |n+1,hn=>by
  have g:=okR H n am
  refine⟨Gt (w5 H) (n+1),λx k D v X Y O i hD=>?_⟩
  have h:G4 s ls m (runN (wAt s ls) n) (v,X,Y) (prog x) k D:=⟨O,i,hD⟩;clear O;have V:∀j:List AT,j.length+(n+1)<=I9->(Fs ls j).length+1<=Bo:=λj h=>by rw[qZ];unfold I9 at h;unfold Bo;omega
  cases x with
  |ex L=>
   intro P
   have J:∀(L:Nat),(L=1\/L=2\/L=5\/L=6)->G4 s ls m (runN (wAt s ls) n) (v,X,Y) (Pg.mrk λf=>Pg.cl (.ex (L+1)) λx=>Pg.lst (.lp L f x)) k D->
     ∃U1:Tr,∃t w,E 53 [rf,N (L+1)] (RS4 s ls k D) U1.pv (RS4 s ls t w)/\
      LL a53 0 [(0,some rf),(1,some (N L)),(4,some Z0),(5,some (N k)),(8,some U1.pv)] (RS4 s ls t w) (.exit 1)
       [(0,some rf),(1,some (N L)),(4,some Z0),(5,some (N k)),(8,some (trR ls v.1).pv)] (RS4 s ls X Y):=by
    intro L P h;obtain⟨x,t,w,B,d,h⟩:=vex g (L+1) am h.mrk
    exact⟨_,_,_,d,g.2 _ _ _ _ _ _ h.lst h.le h.ok P B⟩
   rcases P with rfl | rfl | rfl | rfl | rfl | rfl
   ·obtain⟨U,t,w,d,a2⟩:=J 1 (by simp) h
    exact Ax6 ldK d a2
   ·obtain⟨U,t,w,d,a2⟩:=J 2 (by simp) h
    exact Ax5 ldK d a2
   ·rcases vac H Ox h.mrk with⟨d,h,_⟩ | ⟨d,h,_⟩
    ·obtain⟨x,t,w,B,a2,h⟩:=vex g 3 (by simp) h
     obtain⟨y,e,A⟩:=IE H (f:=k) am (by simp) h
     cases e;exact Ax4 ldK d a2 A
    ·exact Ax3 ldK d (BUQ H g h)
   ·obtain⟨U,t,w,d,a2⟩:=J 5 (by simp) h
    exact Ax0 ldK d a2
   ·obtain⟨U,t,w,d,a2⟩:=J 6 (by simp) h
    exact AqZ ldK d a2
   ·rcases vac H [45] h.mrk with⟨d,h,_⟩ | ⟨d,h,_⟩
    ·obtain⟨x,t,w,B,a2,h⟩:=vex g 7 (by simp) h
     obtain⟨y,e,A⟩:=IE H (f:=k) am (by simp) h
     cases e;exact AqY ldK d a2 A
    ·exact AqX ldK d (BxU H g hn h)
  |lp L f x=>
   intro P hf;rcases G3.ifW (show G4 s ls m (runN (wAt s ls) n) (v,X,Y) (Pg.ifW (opL L) (Pg.rd λo=>Pg.cl (.ex (L+1)) λy=>Pg.bd 29 o f false [x,y] λz=>Pg.lst (.lp L f z)) (.ret (x,[]))) k D from h) with⟨l,h⟩ | ⟨l,h⟩
   ·have d:=v72 (D:=D) H i L am l
    obtain⟨a2,h⟩:=vrd H h;obtain⟨y,t,w,B,A,h⟩:=vex g (L+1) am h
    have h:=h.bd;exact AJS P d a2 A (QD H am h.le 29 _ false [x,y]) (g.2 _ _ _ _ _ _ h.lst h.le h.ok P am)
   ·have e:=h.ret;cases e;exact AJR P (v72 (D:=D) H i L am l)
  |tl e j=>
   intro hne W;have M:=V j W;rcases vac H [44] h with⟨d,h,_⟩ | ⟨d,h,_⟩
   ·cases e with
    |ex=>
     obtain⟨x,t,w,B,a2,h⟩:=ve1 g (g:=λx=>Pg.lst (.tl .ex (j++[x]))) h
     obtain⟨Q,G,b3⟩:=g.2 _ _ _ _ _ _ h.lst h.le h.ok (by simp) (by simp;omega)
     simp only[slO,IG] at G b3;exact⟨Q,λa=>Ym d a2 M (G a),Yk d a2 M b3⟩
    |fd=>
     obtain⟨x,t,w,B,a2,h⟩:=qP (g:=λx=>Pg.lst (.tl .fd (j++[x]))) H h
     obtain⟨Q,G⟩:=g.2 _ _ _ _ _ _ h.lst h.le h.ok (by simp) (by simp;omega)
     simp only[slO,IG] at G;exact⟨Q,λa x=>YU d a2 M (G a x)⟩
    |pa=>
     obtain⟨x,t,w,B,a2,h⟩:=qN (g:=λx=>Pg.lst (.tl .pa (j++[x]))) H h
     obtain⟨Q,G⟩:=g.2 _ _ _ _ _ _ h.lst h.le h.ok (by simp) (by simp;omega)
     simp only[slO,IG] at G;exact⟨Q,λa=>Yp d a2 M (G a)⟩
   ·have e2:=h.ret;cases e2;refine⟨hne,?_⟩
    cases e with
    |ex=>exact⟨λa=>dD d,dA d⟩
    |fd=>exact λa x=>eD d
    |pa=>exact λa=>dH d
  |bk=>
   rcases vac H [123] h.mrk with⟨d,h,_⟩ | ⟨d,h,_⟩
   ·obtain⟨u,t,w,T,B,h⟩:=h.call g.1;have a2:=g.2 _ _ _ _ _ _ T (by have:=h.le;omega) (hD.le am) (by simp;omega) k
    obtain⟨k3,D3,b,l3,A,h⟩:=vxp H [125] h;obtain⟨y,e,a4⟩:=iF H (f:=k) am h
    cases e;exact BvQ ldK (AkK d) a2 A a4
   ·obtain⟨a2,h⟩:=v29 H h;have hle:=h.le;have e:=h.bd.ret;cases e;exact BvP ldK (AkJ d a2) (Nf H (Ai _) hle 11 [] false)
  |sts j=>
   intro W a;rcases h.ifW with⟨l,h⟩ | ⟨l,h⟩
   ·have e:=h.ret;cases e;exact Q6 (XQ H i (by rw[l,Bool.or_true]))
   ·rcases h.ifK with⟨C,h⟩ | ⟨C,h⟩
    ·have e:=h.ret;cases e;exact Q6 (XQ H i (by rw[decide_eq_true C,Bool.true_or]))
    ·obtain⟨u,t,w,T,B,h⟩:=h.cl g.1;have d:=g.2 _ _ _ _ _ _ T i hD;have a2:=g.2 _ _ _ _ _ _ h.lst h.le h.ok (by simp;omega) a
     simp only[slO,IG] at a2;exact Yo (XQ H i (by rw[l,decide_eq_false C,CS])) d (V j W) a2
  |st=>exact vst H g hn h
  |br=>
   intro l;obtain⟨d,h⟩:=Wz H h.mrk;obtain⟨u,t,w,B,a2,h⟩:=ve1 g h;obtain⟨b,k3,D3,l3,A,h⟩:=vbk g h;have xn:=Nf (D:=D3) H (f:=k3) (k:=k3) (Ai _) h.le 0 [] false;rcases vac H Wy h with⟨a4,h,_⟩ | ⟨a4,h,_⟩
   ·have R:=h.le;have ok4:=h.ok;rcases h.ifW with⟨b5,h⟩ | ⟨b5,h⟩
    ·obtain⟨o,k5,D5,T,l5,h⟩:=h.cl g.1;have a5:=g.2 _ _ _ _ _ _ T R ok4 b5;obtain⟨y,e,a6⟩:=IE H (f:=k) am (by simp) h
     cases e;exact BkY ldK d a2 A ldK xn a4 (EK H R wIf b5) a5 a6
    ·obtain⟨o,k5,D5,l5,a5,h⟩:=vbk g h;obtain⟨y,e,a6⟩:=IE H (f:=k) am (by simp) h
     cases e;exact BkX ldK d a2 A ldK xn a4 (EK H R wIf b5) a5 a6
   ·have h:=h.mrk.bd;obtain⟨y,e,a6⟩:=IE H (f:=k) am (by simp) h
    cases e;exact BkZ ldK d a2 A ldK xn a4 a6
  |sk f=>
   rcases h.ifK with⟨C,h⟩ | ⟨C,h⟩
   ·have e:=h.ret;cases e;exact M6 (XQ H i (by rw[decide_eq_true C,Bool.true_or]))
   ·have h:=h.mrk;by_cases hf:k=f
    ·rw[if_pos hf] at h;rcases h.ifW with⟨l,h⟩ | ⟨l,h⟩
     ·have e:=h.ret;cases e;exact M6 (XQ H i (by rw[l,Bool.or_true]))
     ·have d:=XQ (D:=D) H i (b:=false) (by rw[l,decide_eq_false C,CS])
      obtain⟨a2,h⟩:=vrd H h;by_cases I:(wAt s ls k).2=[59]
      ·rw[if_pos I] at h;have e:=h.ret;cases e;exact dz d ldK am a2 I
      ·rw[if_neg I] at h;exact Yj d ldK am a2 I (g.2 _ _ _ _ _ _ h.lst h.le h.ok)
    ·rw[if_neg hf] at h;rcases h.ifW with⟨l,h⟩ | ⟨l,h⟩
     ·have e:=h.ret;cases e;cases S:J2.contains (wAt s ls k).2 with
      |true=>exact M6 (XQ H i (by rw[S,Bool.or_true]))
      |false=>exact dx (XQ H i (by rw[S,decide_eq_false C,CS])) ldK am (BzX H i (by rw[<-bJ S];exact l))
     ·obtain⟨c1,c2⟩:=iY l;have d:=XQ (D:=D) H i (b:=false) (by rw[c1,decide_eq_false C,CS])
      have F:=BzX (D:=D) H i c2;obtain⟨a2,h⟩:=vrd H h;by_cases I:(wAt s ls k).2=[59]
      ·rw[if_pos I] at h;have e:=h.ret;cases e;exact dw d ldK am F a2 I
      ·rw[if_neg I] at h;exact Yi d ldK am F a2 I (g.2 _ _ _ _ _ _ h.lst h.le h.ok)
  |sp=>
   intro a us;have F:=u25 (D:=D) H i;rcases h.ifK with⟨C,h⟩ | ⟨C,h⟩
   ·have e:=h.ret;cases e;exact jr F am
   ·rcases h.ifW with⟨l,h⟩ | ⟨l,h⟩
    ·have e:=h.ret;cases e;cases hr:[LG].contains (wAt s ls k).2 with
     |true=>exact jq F am (EK H i LG hr)
     |false=>
      refine jo F am (EK H i LG hr) (EK H i IQ ?_)
      simp only[BO,Cr,Db,Dk] at l hr ⊢;rw[hr] at l;simpa using l
    ·obtain⟨Q,G⟩:=ZU l;obtain⟨a2,h⟩:=Wz H h;exact Q5 F am (EK H i LG G) (EK H i IQ Q) a2 (g.2 _ _ _ _ _ _ h.lst h.le h.ok a us)
  |pg j=>
   intro W;have F:=u25 (D:=D) H i;have M:=V j W;rcases h.ifK with⟨C,h⟩ | ⟨C,h⟩
   ·have e:=h.ret;cases e;exact jv F am
   ·rcases h.ifW with⟨l,h⟩ | ⟨l,h⟩
    ·obtain⟨x,t,w,B,a2,h⟩:=ze H g am h
     have A:=g.2 _ _ _ _ _ _ h.lst h.le h.ok (by simp;omega)
     simp only[slO,IG] at A;exact dh F am (EK H i LG l) a2 M A
    ·have a2:=EK (D:=D) H i LG l;rcases h.ifW with⟨K,h⟩ | ⟨K,h⟩
     ·obtain⟨x,t,w,B,A,h⟩:=BxT H g am h
      have a4:=g.2 _ _ _ _ _ _ h.lst h.le h.ok (by simp;omega)
      simp only[slO,IG] at a4;exact df F am a2 (EK H i IQ K) A M a4
     ·have A:=EK (D:=D) H i IQ K;obtain⟨a4,h⟩:=v29 H h;have a0':=u25 (D:=rp D 7 k []) H i;have a2':=EK (D:=rp D 7 k []) H i LG l;have a3':=EK (D:=rp D 7 k []) H i IQ K;obtain⟨a5,h⟩:=Wz H h.mrk;obtain⟨u,t,w,T,B,h2⟩:=h.call g.1;have a6:=g.2 _ _ _ _ _ _ T h.le h.ok k (Fs ls j);have a7:=Q5 a0' am a2' a3' a5 a6
      have Z:=h2.bd;have a8:=g.2 _ _ _ _ _ _ Z.lst Z.le Z.ok (by simp;omega)
      simp only[slO,IG] at a8;exact cZ F am a2 A ldK a4 a7 (Nf H am Z.le 1 [] false) M a8
end
end Go.Abs.Z
