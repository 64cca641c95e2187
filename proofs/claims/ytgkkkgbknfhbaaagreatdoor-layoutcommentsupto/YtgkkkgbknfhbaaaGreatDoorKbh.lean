/- A part of the proof: WS D22 D23 VCH VCI. -/
import Derived.Test.YtgkkkgbknfhbaaaGreatDoorKbf
import Derived.Test.YtgkkkgbknfhbaaaGreatDoorKbg
import Derived.Test.YtgkkkgbknfhbaaaGreatDoorKbe

set_option linter.all false
namespace Go.Abs.Z
noncomputable section
open PV
open Go.Proofs Go.RowKit
variable{c D c2 K:UInt8}{w s T s2:List UInt8}{b1:Bool}{i m1 m2:Nat}{e:CE}{G:FF}{J:Sto}{z:List Tk}{z1:Int}{F A B H M:List Dg}{t1 t2 Y V W t6:Tk}{O aa X:Dg}
def R89:Rn 192 a192:=rn
def BkJ(D:(c.toNat:Int)=9):EvE 192 [.int .u8 (c.toNat:Int)] (.bool true):=
 rule R89 [sp 2 (Bz .u8 D)]
def BkI(D:(c.toNat:Int)≠9)(c2:(c.toNat:Int)=10):EvE 192 [.int .u8 (c.toNat:Int)] (.bool true):=
 rule R89 [sp 2 (Bb .u8 D),sq 2 (Bz .u8 c2)]
def BkH(D:(c.toNat:Int)≠9)(c2:(c.toNat:Int)≠10)(K:(c.toNat:Int)=13):EvE 192 [.int .u8 (c.toNat:Int)] (.bool true):=
 rule R89 [sp 2 (Bb .u8 D),sq 2 (Bb .u8 c2),sq 3 (Bz .u8 K)]
def BkG(D:(c.toNat:Int)≠9)(c2:(c.toNat:Int)≠10)(K:(c.toNat:Int)≠13):EvE 192 [.int .u8 (c.toNat:Int)] (.bool ((c.toNat:Int)==32)):=
 rule R89 [sp 2 (Bb .u8 D),sq 2 (Bb .u8 c2),sq 3 (Bb .u8 K)]
def R90:Rn 193 a193:=rn
def BkF(D:(c.toNat:Int)>=97):EvE 193 [.int .u8 (c.toNat:Int)] (.bool (decide ((c.toNat:Int)<=122))):=
 rule R90 [sp 2 (Gi .u8 D)]
def BkE(D:¬(c.toNat:Int)>=97):EvE 193 [.int .u8 (c.toNat:Int)] (.bool false):=
 rule R90 [sp 2 (Im .u8 D)]
def R91:Rn 141 a141:=rn
def BkD(D:(c.toNat:Int)>=48):EvE 141 [.int .u8 (c.toNat:Int)] (.bool (decide ((c.toNat:Int)<=57))):=
 rule R91 [sp 2 (Gi .u8 D)]
def BkC(D:¬(c.toNat:Int)>=48):EvE 141 [.int .u8 (c.toNat:Int)] (.bool false):=
 rule R91 [sp 2 (Im .u8 D)]
def R92:Rn 194 a194:=rn
def r92(a:EvE 152 [slF 1 [.str [114,101,99,111,114,100],.str [112,114,111,99],.str [118,97,114],.str [105,102],.str [101,108,115,101],.str [119,104,105,108,101],.str [102,111,114],.str [116,111],.str [114,101,116,117,114,110],.str [97,115,115,101,114,116],.str [97,110,100],.str [111,114],.str [110,111,116],.str [116,114,117,101],.str [102,97,108,115,101],.str [105,110,116],.str [98,111,111,108],.str [108,101,110]],.str w] (.bool b1)):EvE 194 [.str w] (.bool b1):=
 rule R92 [st 3 (oC1 [] a)]
def R93:Rn 195 a195:=rn
section
variable(l1:i<2000000000)
include l1
theorem BkB(D:(((i+2):Nat):Int)<=(s.length:Int))(b:BM (.ssl true true) [.str s,N i,N (i+2)] (.str T))(a:EvE 152 [slF 1 [.str [61,61],.str [33,61],.str [60,61],.str [62,61]],.str T] (.bool true)):EvE 195 [.str s,N i] (I 2):=
 rule R93 [sp 2 (AO i 2 l1),sp 2 (KW .i64 D),sq 5 (AO i 2 l1),sq 0 b,sg 0 (oC1 [] a)]
theorem BkA(D:¬(((i+2):Nat):Int)<=(s.length:Int))(b:BM (.ssl true true) [.str s,N i,N (i+1)] (.str T))(a:EvE 152 [slF 1 [.str [60],.str [62],.str [61],.str [43],.str [45],.str [42],.str [47],.str [37],.str [40],.str [41],.str [123],.str [125],.str [91],.str [93],.str [44],.str [59],.str [58],.str [46]],.str T] (.bool true)):EvE 195 [.str s,N i] (I 1):=
 rule R93 [sp 2 (AO i 2 l1),sp 2 (LC .i64 D),sp 14 (AO i 1 l1),sp 0 b,st 0 (oC1 [] a)]
theorem Bk9(D:¬(((i+2):Nat):Int)<=(s.length:Int))(b:BM (.ssl true true) [.str s,N i,N (i+1)] (.str T))(a:EvE 152 [slF 1 [.str [60],.str [62],.str [61],.str [43],.str [45],.str [42],.str [47],.str [37],.str [40],.str [41],.str [123],.str [125],.str [91],.str [93],.str [44],.str [59],.str [58],.str [46]],.str T] (.bool false)):EvE 195 [.str s,N i] (I 0):=
 rule R93 [sp 2 (AO i 2 l1),sp 2 (LC .i64 D),sp 14 (AO i 1 l1),sp 0 b,st 0 (oC1 [] a)]
theorem Bk8(D:(((i+2):Nat):Int)<=(s.length:Int))(b:BM (.ssl true true) [.str s,N i,N (i+2)] (.str T))(a:EvE 152 [slF 1 [.str [61,61],.str [33,61],.str [60,61],.str [62,61]],.str T] (.bool false))(d:BM (.ssl true true) [.str s,N i,N (i+1)] (.str s2))(f:EvE 152 [slF 1 [.str [60],.str [62],.str [61],.str [43],.str [45],.str [42],.str [47],.str [37],.str [40],.str [41],.str [123],.str [125],.str [91],.str [93],.str [44],.str [59],.str [58],.str [46]],.str s2] (.bool true)):EvE 195 [.str s,N i] (I 1):=
 rule R93 [sp 2 (AO i 2 l1),sp 2 (KW .i64 D),sq 5 (AO i 2 l1),sq 0 b,sg 0 (oC1 [] a),sp 6 (AO i 1 l1),sp 0 d,st 0 (oC1 [] f)]
theorem Bk7(D:(((i+2):Nat):Int)<=(s.length:Int))(b:BM (.ssl true true) [.str s,N i,N (i+2)] (.str T))(a:EvE 152 [slF 1 [.str [61,61],.str [33,61],.str [60,61],.str [62,61]],.str T] (.bool false))(d:BM (.ssl true true) [.str s,N i,N (i+1)] (.str s2))(f:EvE 152 [slF 1 [.str [60],.str [62],.str [61],.str [43],.str [45],.str [42],.str [47],.str [37],.str [40],.str [41],.str [123],.str [125],.str [91],.str [93],.str [44],.str [59],.str [58],.str [46]],.str s2] (.bool false)):EvE 195 [.str s,N i] (I 0):=
 rule R93 [sp 2 (AO i 2 l1),sp 2 (KW .i64 D),sq 5 (AO i 2 l1),sq 0 b,sg 0 (oC1 [] a),sp 6 (AO i 1 l1),sp 0 d,st 0 (oC1 [] f)]
end
def R94:Rn 196 a196:=rn
section
variable(U:(s:List UInt8)[i]?=some D)
include U
theorem Bk6(a:EvE 193 [.int .u8 (D.toNat:Int)] (.bool true)):EvE 196 [.str s,N i] (.bool true):=
 rule R94 [sp 3 (Bi _ i _ U),st 0 (oC a)]
section
variable(h1:EvE 193 [.int .u8 (D.toNat:Int)] (.bool false))
include h1
theorem Bk5(a:EvE 141 [.int .u8 (D.toNat:Int)] (.bool true)):EvE 196 [.str s,N i] (.bool true):=
 rule R94 [sp 3 (Bi _ i _ U),st 0 (oC h1),sq 3 (Bi _ i _ U),sg 0 (oC a)]
theorem Bk4(a:EvE 141 [.int .u8 (D.toNat:Int)] (.bool false))(b:EvE 195 [.str s,N i] (N m1)):EvE 196 [.str s,N i] (.bool (decide ((m1:Int) > 0))):=
 rule R94 [sp 3 (Bi _ i _ U),st 0 (oC h1),sq 3 (Bi _ i _ U),sg 0 (oC a),sg 4 (oC b)]
end
end
def R40:Rn 136 OX:=rn
def r40(a:LL OX 0 [(0,str s),(1,N i)] [] (.exit 0) [(1,N m1)] []):EvE 136 [.str s,N i] (N m1):=
 rule R40 [sl 1 [0,1] a]
def Q7(D:¬(m1:Int) < (s.length:Int)):LL OX 0 [(0,str s),(1,N m1)] [] (.exit 0) [(1,N m1)] []:=
 Bw [1] [sp 3 (Bh .i64 D)]
def YG(D:(m1:Int) < (s.length:Int))(a:(s:List UInt8)[m1]?=some c2)(b:EvE 192 [.int .u8 (c2.toNat:Int)] (.bool true))(K:(c2.toNat:Int)≠35)(d:m1<2000000000)(f:LL OX 0 [(0,str s),(1,N (m1+1))] [] e G J):LL OX 0 [(0,str s),(1,N m1)] [] e G J:=
 BC [0,1] [sp 3 (AZ .i64 D),sq 3 (Bi _ m1 _ a),sg 0 (oC b),sp 10 (Bi _ m1 _ a),sp 0 (Bb .u8 K),sp 2 (AO m1 1 d)] f
def YF(D:(m1:Int) < (s.length:Int))(a:(s:List UInt8)[m1]?=some c2)(b:EvE 192 [.int .u8 (c2.toNat:Int)] (.bool false))(K:(c2.toNat:Int)=35)(d:LL OX 1 [(0,str s),(1,N m1),(10,str s),(11,N m1),(12,int .u8 (c2.toNat:Int)),(13,bool false),(14,bool false),(15,str s),(16,N m1),(17,int .u8 (c2.toNat:Int)),(18,bool true),(19,bool true)] [] (.exit 2) [(0,str s),(1,N m2),(10,str s),(11,N m1),(12,int .u8 (c2.toNat:Int)),(13,bool false),(14,bool false),(15,str s),(16,N m1),(17,int .u8 (c2.toNat:Int)),(18,bool true),(19,bool true)] [])(f:LL OX 0 [(0,str s),(1,N m2)] [] e G J):LL OX 0 [(0,str s),(1,N m1)] [] e G J:=
 BC [0,1] [sp 3 (AZ .i64 D),sq 3 (Bi _ m1 _ a),sg 0 (oC b),sq 3 (Bi _ m1 _ a),sq 0 (Bz .u8 K),sp 5 (Bi _ m1 _ a),sp 0 (Bz .u8 K),sl 1 [0,1,10,11,12,13,14,15,16,17,18,19] d] f
def dW(D:(m1:Int) < (s.length:Int))(a:(s:List UInt8)[m1]?=some c2)(b:EvE 192 [.int .u8 (c2.toNat:Int)] (.bool false))(K:(c2.toNat:Int)≠35):LL OX 0 [(0,str s),(1,N m1)] [] (.exit 0) [(1,N m1)] []:=
 Bw [1] [sp 3 (AZ .i64 D),sq 3 (Bi _ m1 _ a),sg 0 (oC b),sq 3 (Bi _ m1 _ a),sq 0 (Bb .u8 K)]
def dV(D:¬(m2:Int) < (s.length:Int)):LL OX 1 [(0,str s),(1,N m2),(10,str s),(11,N m1),(12,int .u8 (c2.toNat:Int)),(13,bool false),(14,bool false),(15,str s),(16,N m1),(17,int .u8 (c2.toNat:Int)),(18,bool true),(19,bool true)] [] (.exit 2) [(0,str s),(1,N m2),(10,str s),(11,N m1),(12,int .u8 (c2.toNat:Int)),(13,bool false),(14,bool false),(15,str s),(16,N m1),(17,int .u8 (c2.toNat:Int)),(18,bool true),(19,bool true)] []:=
 Bw [0,1,10,11,12,13,14,15,16,17,18,19] [sp 3 (Bh .i64 D)]
def YE(D:(m2:Int) < (s.length:Int))(a:(s:List UInt8)[m2]?=some K)(d:(K.toNat:Int)≠10)(f:m2<2000000000)(b:LL OX 1 [(0,str s),(1,N (m2+1)),(10,str s),(11,N m1),(12,int .u8 (c2.toNat:Int)),(13,bool false),(14,bool false),(15,str s),(16,N m1),(17,int .u8 (c2.toNat:Int)),(18,bool true),(19,bool true)] [] e G J):LL OX 1 [(0,str s),(1,N m2),(10,str s),(11,N m1),(12,int .u8 (c2.toNat:Int)),(13,bool false),(14,bool false),(15,str s),(16,N m1),(17,int .u8 (c2.toNat:Int)),(18,bool true),(19,bool true)] [] e G J:=
 BC [0,1,10,11,12,13,14,15,16,17,18,19] [sp 3 (AZ .i64 D),sq 3 (Bi _ m2 _ a),sq 0 (C8 .u8 d),sp 3 (AO m2 1 f)] b
def dU(D:(m2:Int) < (s.length:Int))(a:(s:List UInt8)[m2]?=some K)(b:(K.toNat:Int)=10):LL OX 1 [(0,str s),(1,N m2),(10,str s),(11,N m1),(12,int .u8 (c2.toNat:Int)),(13,bool false),(14,bool false),(15,str s),(16,N m1),(17,int .u8 (c2.toNat:Int)),(18,bool true),(19,bool true)] [] (.exit 2) [(0,str s),(1,N m2),(10,str s),(11,N m1),(12,int .u8 (c2.toNat:Int)),(13,bool false),(14,bool false),(15,str s),(16,N m1),(17,int .u8 (c2.toNat:Int)),(18,bool true),(19,bool true)] []:=
 Bw [0,1,10,11,12,13,14,15,16,17,18,19] [sp 3 (AZ .i64 D),sq 3 (Bi _ m2 _ a),sq 0 (Dr .u8 b)]
def R41:Rn 137 JY:=rn
section
variable(U:(s:List UInt8)[i]?=some D)(h1:EvE 193 [.int .u8 (D.toNat:Int)] (.bool true))(L1:LL JY 0 [(0,str s),(1,N i),(6,N i)] [] (.exit 1) [(0,str s),(1,N i),(6,N m1)] [])(x1:BM (.ssl true true) [.str s,N i,N m1] (.str T))
include U h1 L1 x1
theorem Bw9(a:EvE 194 [.str T] (.bool true)):EvE 137 [.str s,N i] (.tuple [I 1,N m1]):=
 rule R41 [sp 6 (Bi _ i _ U),st 0 (oC h1),sl 2 [0,1,6] L1,sp 3 x1,st 0 (oC a)]
theorem Bw8(a:EvE 194 [.str T] (.bool false)):EvE 137 [.str s,N i] (.tuple [I 0,N m1]):=
 rule R41 [sp 6 (Bi _ i _ U),st 0 (oC h1),sl 2 [0,1,6] L1,sp 3 x1,st 0 (oC a)]
end
section
variable(U:(s:List UInt8)[i]?=some D)(h1:EvE 193 [.int .u8 (D.toNat:Int)] (.bool false))
include U h1
def rq:List Stp:=[sp 6 (Bi _ i _ U),st 0 (oC h1),sp 4 (Bi _ i _ U)]
theorem Bw7(a:EvE 141 [.int .u8 (D.toNat:Int)] (.bool true))(b:LL JY 1 [(0,str s),(1,N i),(6,N i)] [] (.exit 3) [(0,str s),(1,N i),(6,N m1)] []):EvE 137 [.str s,N i] (.tuple [I 2,N m1]):=
 rule R41 (rq U h1++[st 0 (oC a),sl 2 [0,1,6] b])
section
variable(h2:EvE 141 [.int .u8 (D.toNat:Int)] (.bool false))(h3:EvE 195 [.str s,N i] (N m1))
include h2 h3
theorem Bw6(c2:(m1:Int) > 0)(d:EvE 195 [.str s,N i] (N m2))(a:i<2000000000)(b:m2<2000000000):EvE 137 [.str s,N i] (.tuple [I 3,N (i+m2)]):=
 rule R41 (rq U h1++[st 0 (oC h2),st 4 (oC h3),sp 0 (CF .i64 c2),st 5 (oC d),sp 0 (AO i m2 a b)])
theorem Bw5(c2:¬(m1:Int) > 0)(a:LL JY 2 [(0,str s),(1,N i),(6,N i)] [] (.exit 5) [(0,str s),(1,N i),(6,N m2)] []):EvE 137 [.str s,N i] (.tuple [I 4,N m2]):=
 rule R41 (rq U h1++[st 0 (oC h2),st 4 (oC h3),sp 0 (Cz .i64 c2),sl 2 [0,1,6] a])
end
end
def dS(D:¬(m1:Int) < (s.length:Int)):LL JY 0 [(0,str s),(1,N i),(6,N m1)] [] (.exit 1) [(0,str s),(1,N i),(6,N m1)] []:=
 Bw [0,1,6] [sp 3 (Bh .i64 D)]
def YD(D:(m1:Int) < (s.length:Int))(f:(s:List UInt8)[m1]?=some c2)(a:EvE 193 [.int .u8 (c2.toNat:Int)] (.bool true))(d:m1<2000000000)(b:LL JY 0 [(0,str s),(1,N i),(6,N (m1+1))] [] e G J):LL JY 0 [(0,str s),(1,N i),(6,N m1)] [] e G J:=
 BC [0,1,6] [sp 3 (AZ .i64 D),sq 3 (Bi _ m1 _ f),sg 0 (oC a),sp 15 (AO m1 1 d)] b
def YC(D:(m1:Int) < (s.length:Int))(a:(s:List UInt8)[m1]?=some c2)(b:EvE 193 [.int .u8 (c2.toNat:Int)] (.bool false))(f:EvE 141 [.int .u8 (c2.toNat:Int)] (.bool true))(d:m1<2000000000)(g:LL JY 0 [(0,str s),(1,N i),(6,N (m1+1))] [] e G J):LL JY 0 [(0,str s),(1,N i),(6,N m1)] [] e G J:=
 BC [0,1,6] [sp 3 (AZ .i64 D),sq 3 (Bi _ m1 _ a),sg 0 (oC b),sq 3 (Bi _ m1 _ a),sg 0 (oC f),sp 10 (AO m1 1 d)] g
def YB(D:(m1:Int) < (s.length:Int))(a:(s:List UInt8)[m1]?=some c2)(b:EvE 193 [.int .u8 (c2.toNat:Int)] (.bool false))(f:EvE 141 [.int .u8 (c2.toNat:Int)] (.bool false))(K:(c2.toNat:Int)=95)(d:m1<2000000000)(g:LL JY 0 [(0,str s),(1,N i),(6,N (m1+1))] [] e G J):LL JY 0 [(0,str s),(1,N i),(6,N m1)] [] e G J:=
 BC [0,1,6] [sp 3 (AZ .i64 D),sq 3 (Bi _ m1 _ a),sg 0 (oC b),sq 3 (Bi _ m1 _ a),sg 0 (oC f),sq 4 (Bi _ m1 _ a),sq 0 (Bz .u8 K),sp 4 (AO m1 1 d)] g
def dR(D:(m1:Int) < (s.length:Int))(a:(s:List UInt8)[m1]?=some c2)(b:EvE 193 [.int .u8 (c2.toNat:Int)] (.bool false))(d:EvE 141 [.int .u8 (c2.toNat:Int)] (.bool false))(K:(c2.toNat:Int)≠95):LL JY 0 [(0,str s),(1,N i),(6,N m1)] [] (.exit 1) [(0,str s),(1,N i),(6,N m1)] []:=
 Bw [0,1,6] [sp 3 (AZ .i64 D),sq 3 (Bi _ m1 _ a),sg 0 (oC b),sq 3 (Bi _ m1 _ a),sg 0 (oC d),sq 4 (Bi _ m1 _ a),sq 0 (Bb .u8 K)]
def dQ(D:¬(m1:Int) < (s.length:Int)):LL JY 1 [(0,str s),(1,N i),(6,N m1)] [] (.exit 3) [(0,str s),(1,N i),(6,N m1)] []:=
 Bw [0,1,6] [sp 3 (Bh .i64 D)]
def YA(D:(m1:Int) < (s.length:Int))(f:(s:List UInt8)[m1]?=some c2)(a:EvE 141 [.int .u8 (c2.toNat:Int)] (.bool true))(d:m1<2000000000)(b:LL JY 1 [(0,str s),(1,N i),(6,N (m1+1))] [] e G J):LL JY 1 [(0,str s),(1,N i),(6,N m1)] [] e G J:=
 BC [0,1,6] [sp 3 (AZ .i64 D),sq 3 (Bi _ m1 _ f),sg 0 (oC a),sp 3 (AO m1 1 d)] b
def dP(D:(m1:Int) < (s.length:Int))(b:(s:List UInt8)[m1]?=some c2)(a:EvE 141 [.int .u8 (c2.toNat:Int)] (.bool false)):LL JY 1 [(0,str s),(1,N i),(6,N m1)] [] (.exit 3) [(0,str s),(1,N i),(6,N m1)] []:=
 Bw [0,1,6] [sp 3 (AZ .i64 D),sq 3 (Bi _ m1 _ b),sg 0 (oC a)]
def dO(D:¬(m1:Int) < (s.length:Int)):LL JY 2 [(0,str s),(1,N i),(6,N m1)] [] (.exit 5) [(0,str s),(1,N i),(6,N m1)] []:=
 Bw [0,1,6] [sp 3 (Bh .i64 D)]
def dN(D:(m1:Int) < (s.length:Int))(b:(s:List UInt8)[m1]?=some c2)(a:EvE 192 [.int .u8 (c2.toNat:Int)] (.bool true)):LL JY 2 [(0,str s),(1,N i),(6,N m1)] [] (.exit 5) [(0,str s),(1,N i),(6,N m1)] []:=
 Bw [0,1,6] [sp 3 (AZ .i64 D),sq 3 (Bi _ m1 _ b),sg 0 (oC a)]
def dM(D:(m1:Int) < (s.length:Int))(a:(s:List UInt8)[m1]?=some c2)(b:EvE 192 [.int .u8 (c2.toNat:Int)] (.bool false))(K:(c2.toNat:Int)=35):LL JY 2 [(0,str s),(1,N i),(6,N m1)] [] (.exit 5) [(0,str s),(1,N i),(6,N m1)] []:=
 Bw [0,1,6] [sp 3 (AZ .i64 D),sq 3 (Bi _ m1 _ a),sg 0 (oC b),sq 5 (Bi _ m1 _ a),sq 0 (Dr .u8 K)]
def dL(D:(m1:Int) < (s.length:Int))(a:(s:List UInt8)[m1]?=some c2)(b:EvE 192 [.int .u8 (c2.toNat:Int)] (.bool false))(K:(c2.toNat:Int)≠35)(d:EvE 196 [.str s,N m1] (.bool true)):LL JY 2 [(0,str s),(1,N i),(6,N m1)] [] (.exit 5) [(0,str s),(1,N i),(6,N m1)] []:=
 Bw [0,1,6] [sp 3 (AZ .i64 D),sq 3 (Bi _ m1 _ a),sg 0 (oC b),sq 5 (Bi _ m1 _ a),sq 0 (C8 .u8 K),sg 4 (oC d)]
def Yz(D:(m1:Int) < (s.length:Int))(a:(s:List UInt8)[m1]?=some c2)(b:EvE 192 [.int .u8 (c2.toNat:Int)] (.bool false))(K:(c2.toNat:Int)≠35)(f:EvE 196 [.str s,N m1] (.bool false))(d:m1<2000000000)(g:LL JY 2 [(0,str s),(1,N i),(6,N (m1+1))] [] e G J):LL JY 2 [(0,str s),(1,N i),(6,N m1)] [] e G J:=
 BC [0,1,6] [sp 3 (AZ .i64 D),sq 3 (Bi _ m1 _ a),sg 0 (oC b),sq 5 (Bi _ m1 _ a),sq 0 (C8 .u8 K),sg 4 (oC f),sp 4 (AO m1 1 d)] g
def R18:Rn 80 a80:=rn
def BQ2(D:¬(s.length:Int) > 4096)(a:LL a80 0 [(0,str s),(4,slice true 4 []),(5,I 0)] [] .ret [(2,slice true 4 (z.map Tk.pv)),(3,I 0)] []):EvE 80 [.str s] (.tuple [slF 4 (z.map Tk.pv),I 0]):=
 rule R18 [sp 4 (Cz .i64 D),sl 4 [0,4,5] a]
def eH(a:EvE 136 [.str s,N m1] (N m2))(D:(m2:Int)=(s.length:Int))(b:z.length+1<=Bo):LL a80 0 [(0,str s),(4,slice true 4 (z.map Tk.pv)),(5,N m1)] [] .ret [(2,slice true 4 ((z++[Tk.mk 5 m1 m2 m2]).map Tk.pv)),(3,I 0)] []:=
 Bw [2,3] [st 2 (oC a),sp 4 (Bz .i64 D),sp 7 (nE true (Tk.mk 5 m1 m2 m2) b)]
def Y0{m3:Nat}{a:Nat}(b:EvE 136 [.str s,N m1] (N m2))(D:(m2:Int)≠(s.length:Int))(g:EvE 137 [.str s,N m2] (.tuple [N m3,N a]))(f:z.length+1<=Bo)(d:LL a80 0 [(0,str s),(4,slice true 4 ((z++[Tk.mk m3 m1 m2 a]).map Tk.pv)),(5,N a)] [] e G J):LL a80 0 [(0,str s),(4,slice true 4 (z.map Tk.pv)),(5,N m1)] [] e G J:=
 BC [0,4,5] [st 2 (oC b),sp 4 (Bb .i64 D),st 3 (oC g),sp 12 (nE true (Tk.mk m3 m1 m2 a) f)] d
def R64:Rn 89 a89:=rn
def BvO(D:(w.length:Int) < 1):EvE 89 [.str w] (.tuple [I 0,.bool false]):=
 rule R64 [sp 4 (AZ .i64 D)]
def BvN(D:¬(w.length:Int) < 1)(c2:(w.length:Int) > 9):EvE 89 [.str w] (.tuple [I 0,.bool false]):=
 rule R64 [sp 4 (Bh .i64 D),sq 3 (CF .i64 c2)]
def BvM(D:¬(w.length:Int) < 1)(c2:¬(w.length:Int) > 9)(a:LL a89 0 [(0,str w),(4,I 0),(5,I 0)] [] (.exit 0) [(0,str w),(4,I z1)] []):EvE 89 [.str w] (.tuple [I z1,.bool true]):=
 rule R64 [sp 4 (Bh .i64 D),sq 3 (Cz .i64 c2),sl 4 [0,4,5] a]
def BvL(D:¬(w.length:Int) < 1)(c2:¬(w.length:Int) > 9)(a:LL a89 0 [(0,str w),(4,I 0),(5,I 0)] [] .ret [(2,I 0),(3,bool false)] []):EvE 89 [.str w] (.tuple [I 0,.bool false]):=
 rule R64 [sp 4 (Bh .i64 D),sq 3 (Cz .i64 c2),sl 4 [0,4,5] a]
def dG(D:¬(m1:Int) < (w.length:Int)):LL a89 0 [(0,str w),(4,I z1),(5,N m1)] [] (.exit 0) [(0,str w),(4,I z1)] []:=
 Bw [0,4] [sp 3 (Bh .i64 D)]
def Pe{d:Int}{a:Int}{f:Int}{b:Int}(D:(m1:Int) < (w.length:Int))(g:(w:List UInt8)[m1]?=some c2)(h:EvE 141 [.int .u8 (c2.toNat:Int)] (.bool true))(l:IntKind.i64.wrap (10 * z1)=d)(n:IntKind.u8.wrap ((c2.toNat:Int) - 48)=a)(m:IntKind.i64.wrap a=f)(k:IntKind.i64.wrap (d+f)=b)(j:m1<2000000000)(o:LL a89 0 [(0,str w),(4,I b),(5,N (m1+1))] [] e G J):LL a89 0 [(0,str w),(4,I z1),(5,N m1)] [] e G J:=
 BC [0,4,5] [sp 3 (AZ .i64 D),sp 3 (Bi _ m1 _ g),st 0 (oC h),sp 3 (jL l),sp 2 (Bi _ m1 _ g),sp 0 (XZ n),sp 0 (aF (k:=.u8) m),sp 0 (kH k),sp 2 (AO m1 1 j)] o
def dF(D:(m1:Int) < (w.length:Int))(b:(w:List UInt8)[m1]?=some c2)(a:EvE 141 [.int .u8 (c2.toNat:Int)] (.bool false)):LL a89 0 [(0,str w),(4,I z1),(5,N m1)] [] .ret [(2,I 0),(3,bool false)] []:=
 Bw [2,3] [sp 3 (AZ .i64 D),sp 3 (Bi _ m1 _ b),st 0 (oC a)]
def R33:Rn 45 a45:=rn
def r33(a:EvE 80 [.str s] (.tuple [slF 4 (z.map Tk.pv),I z1]))(b:LL a45 0 [(0,str s),(3,slice true 5 []),(4,slice false 4 (z.map Tk.pv)),(6,I 0)] [] (.exit 0) [(0,str s),(3,slice true 5 (F.map Dg.pv))] []):EvE 45 [.str s] (slF 5 (F.map Dg.pv)):=
 rule R33 [st 4 (oC a),sl 6 [0,3,4,6] b]
def eu(D:¬(m1:Int) < (z.length:Int)):LL a45 0 [(0,str s),(3,slice true 5 (F.map Dg.pv)),(4,slice false 4 (z.map Tk.pv)),(6,N m1)] [] (.exit 0) [(0,str s),(3,slice true 5 (F.map Dg.pv))] []:=
 Bw [0,3] [sp 2 (ED false 4 z),sp 0 (Bh .i64 D)]
def YO(D:(m1:Int) < (z.length:Int))(g:z[m1]?=some t1)(a:EvE 90 [.str s,t1.pv] (.str T))(d:EvE 89 [.str T] (.tuple [I z1,.bool b1]))(l:z[m1]?=some t2)(c2:(t2.k:Int)=4)(h:z[m1]?=some Y)(f:z[m1]?=some V)(k:F.length+1<=Bo)(b:m1<2000000000)(j:LL a45 0 [(0,str s),(3,slice true 5 ((F++[Dg.mk 1 Y.a V.e []]).map Dg.pv)),(4,slice false 4 (z.map Tk.pv)),(6,N (m1+1))] [] e G J):LL a45 0 [(0,str s),(3,slice true 5 (F.map Dg.pv)),(4,slice false 4 (z.map Tk.pv)),(6,N m1)] [] e G J:=
 BC [0,3,4,6] [sp 2 (ED false 4 z),sp 0 (AZ .i64 D),sp 5 (Cs (o:=false) (s:=4) m1 g),st 1 (oC a),st 0 (oC d),sp 7 (Cs (o:=false) (s:=4) m1 l),sp 2 (Bz .i64 c2),sp 10 (Cs (o:=false) (s:=4) m1 h),sp 4 (Cs (o:=false) (s:=4) m1 f),sp 4 (Lf true (Dg.mk 1 Y.a V.e []) k),sp 2 (AO m1 1 b)] j
def YN(D:(m1:Int) < (z.length:Int))(g:z[m1]?=some t1)(a:EvE 90 [.str s,t1.pv] (.str T))(d:EvE 89 [.str T] (.tuple [I z1,.bool false]))(l:z[m1]?=some t2)(c2:(t2.k:Int)≠4)(j:z[m1]?=some Y)(K:(Y.k:Int)=2)(f:z[m1]?=some V)(h:z[m1]?=some W)(m:F.length+1<=Bo)(b:m1<2000000000)(k:LL a45 0 [(0,str s),(3,slice true 5 ((F++[Dg.mk 2 V.a W.e []]).map Dg.pv)),(4,slice false 4 (z.map Tk.pv)),(6,N (m1+1))] [] e G J):LL a45 0 [(0,str s),(3,slice true 5 (F.map Dg.pv)),(4,slice false 4 (z.map Tk.pv)),(6,N m1)] [] e G J:=
 BC [0,3,4,6] [sp 2 (ED false 4 z),sp 0 (AZ .i64 D),sp 5 (Cs (o:=false) (s:=4) m1 g),st 1 (oC a),st 0 (oC d),sp 7 (Cs (o:=false) (s:=4) m1 l),sp 2 (Bb .i64 c2),sp 4 (Cs (o:=false) (s:=4) m1 j),sp 2 (Bz .i64 K),sp 14 (Cs (o:=false) (s:=4) m1 f),sp 4 (Cs (o:=false) (s:=4) m1 h),sp 4 (Lf true (Dg.mk 2 V.a W.e []) m),sp 2 (AO m1 1 b)] k
def YM(D:(m1:Int) < (z.length:Int))(g:z[m1]?=some t1)(a:EvE 90 [.str s,t1.pv] (.str T))(d:EvE 89 [.str T] (.tuple [I z1,.bool b1]))(k:z[m1]?=some t2)(c2:(t2.k:Int)≠4)(h:z[m1]?=some Y)(K:(Y.k:Int)≠2)(f:z[m1]?=some V)(b:(V.k:Int)≠0)(l:m1<2000000000)(j:LL a45 0 [(0,str s),(3,slice true 5 (F.map Dg.pv)),(4,slice false 4 (z.map Tk.pv)),(6,N (m1+1))] [] e G J):LL a45 0 [(0,str s),(3,slice true 5 (F.map Dg.pv)),(4,slice false 4 (z.map Tk.pv)),(6,N m1)] [] e G J:=
 BC [0,3,4,6] [sp 2 (ED false 4 z),sp 0 (AZ .i64 D),sp 5 (Cs (o:=false) (s:=4) m1 g),st 1 (oC a),st 0 (oC d),sp 7 (Cs (o:=false) (s:=4) m1 k),sp 2 (Bb .i64 c2),sp 4 (Cs (o:=false) (s:=4) m1 h),sp 2 (Bb .i64 K),sp 8 (Cs (o:=false) (s:=4) m1 f),sp 2 (Bb .i64 b),sp 20 (AO m1 1 l)] j
def YL(D:(m1:Int) < (z.length:Int))(g:z[m1]?=some t1)(a:EvE 90 [.str s,t1.pv] (.str T))(d:EvE 89 [.str T] (.tuple [I z1,.bool true]))(k:z[m1]?=some t2)(c2:(t2.k:Int)≠4)(h:z[m1]?=some Y)(K:(Y.k:Int)=2)(f:z[m1]?=some V)(b:(V.k:Int)≠0)(l:m1<2000000000)(j:LL a45 0 [(0,str s),(3,slice true 5 (F.map Dg.pv)),(4,slice false 4 (z.map Tk.pv)),(6,N (m1+1))] [] e G J):LL a45 0 [(0,str s),(3,slice true 5 (F.map Dg.pv)),(4,slice false 4 (z.map Tk.pv)),(6,N m1)] [] e G J:=
 BC [0,3,4,6] [sp 2 (ED false 4 z),sp 0 (AZ .i64 D),sp 5 (Cs (o:=false) (s:=4) m1 g),st 1 (oC a),st 0 (oC d),sp 7 (Cs (o:=false) (s:=4) m1 k),sp 2 (Bb .i64 c2),sp 4 (Cs (o:=false) (s:=4) m1 h),sp 2 (Bz .i64 K),sp 8 (Cs (o:=false) (s:=4) m1 f),sp 2 (Bb .i64 b),sp 20 (AO m1 1 l)] j
def YK{b:Tk}{a:Tk}(D:(m1:Int) < (z.length:Int))(l:z[m1]?=some t1)(x:EvE 90 [.str s,t1.pv] (.str T))(j:EvE 89 [.str T] (.tuple [I z1,.bool b1]))(t:z[m1]?=some t2)(c2:(t2.k:Int)≠4)(o:z[m1]?=some Y)(K:(Y.k:Int)≠2)(k:z[m1]?=some V)(g:(V.k:Int)=0)(n:z[m1]?=some W)(u:z[m1]?=some t6)(v:t6.a<=W.e)(d:W.e<2000000000)(f:(((W.e - t6.a):Nat):Int) > 16)(p:z[m1]?=some b)(m:z[m1]?=some a)(h:F.length+1<=Bo)(q:m1<2000000000)(r:LL a45 0 [(0,str s),(3,slice true 5 ((F++[Dg.mk 3 b.a a.e []]).map Dg.pv)),(4,slice false 4 (z.map Tk.pv)),(6,N (m1+1))] [] e G J):LL a45 0 [(0,str s),(3,slice true 5 (F.map Dg.pv)),(4,slice false 4 (z.map Tk.pv)),(6,N m1)] [] e G J:=
 BC [0,3,4,6] [sp 2 (ED false 4 z),sp 0 (AZ .i64 D),sp 5 (Cs (o:=false) (s:=4) m1 l),st 1 (oC x),st 0 (oC j),sp 7 (Cs (o:=false) (s:=4) m1 t),sp 2 (Bb .i64 c2),sp 4 (Cs (o:=false) (s:=4) m1 o),sp 2 (Bb .i64 K),sp 8 (Cs (o:=false) (s:=4) m1 k),sp 2 (Bz .i64 g),sq 3 (Cs (o:=false) (s:=4) m1 n),sq 4 (Cs (o:=false) (s:=4) m1 u),sq 2 (Fb W.e t6.a v d),sq 0 (CF .i64 f),sp 11 (Cs (o:=false) (s:=4) m1 p),sp 4 (Cs (o:=false) (s:=4) m1 m),sp 4 (Lf true (Dg.mk 3 b.a a.e []) h),sp 2 (AO m1 1 q)] r
def YJ(D:(m1:Int) < (z.length:Int))(k:z[m1]?=some t1)(a:EvE 90 [.str s,t1.pv] (.str T))(h:EvE 89 [.str T] (.tuple [I z1,.bool b1]))(o:z[m1]?=some t2)(c2:(t2.k:Int)≠4)(m:z[m1]?=some Y)(K:(Y.k:Int)≠2)(j:z[m1]?=some V)(f:(V.k:Int)=0)(l:z[m1]?=some W)(p:z[m1]?=some t6)(q:t6.a<=W.e)(b:W.e<2000000000)(d:¬(((W.e - t6.a):Nat):Int) > 16)(g:m1<2000000000)(n:LL a45 0 [(0,str s),(3,slice true 5 (F.map Dg.pv)),(4,slice false 4 (z.map Tk.pv)),(6,N (m1+1))] [] e G J):LL a45 0 [(0,str s),(3,slice true 5 (F.map Dg.pv)),(4,slice false 4 (z.map Tk.pv)),(6,N m1)] [] e G J:=
 BC [0,3,4,6] [sp 2 (ED false 4 z),sp 0 (AZ .i64 D),sp 5 (Cs (o:=false) (s:=4) m1 k),st 1 (oC a),st 0 (oC h),sp 7 (Cs (o:=false) (s:=4) m1 o),sp 2 (Bb .i64 c2),sp 4 (Cs (o:=false) (s:=4) m1 m),sp 2 (Bb .i64 K),sp 8 (Cs (o:=false) (s:=4) m1 j),sp 2 (Bz .i64 f),sq 3 (Cs (o:=false) (s:=4) m1 l),sq 4 (Cs (o:=false) (s:=4) m1 p),sq 2 (Fb W.e t6.a q b),sq 0 (Cz .i64 d),sp 7 (AO m1 1 g)] n
def R32:Rn 44 a44:=rn
def r32(a:LL a44 0 [(0,slice false 5 (A.map Dg.pv)),(1,slice false 5 (B.map Dg.pv)),(5,slice true 5 [])] [] (.exit 0) [(5,slice true 5 (F.map Dg.pv))] []):EvE 44 [slF 5 (A.map Dg.pv),slF 5 (B.map Dg.pv)] (slF 5 (F.map Dg.pv)):=
 rule R32 [sl 3 [0,1,5] a]
def YT(D:(F.length:Int) > 0)(c2:(H.length:Int)=0)(a:F[0]?=some O)(f:M.length+1<=Bo)(b:1<=F.length)(d:LL a44 0 [(0,slice false 5 (F.tail.map Dg.pv)),(1,slice false 5 (H.map Dg.pv)),(5,slice true 5 ((M++[O]).map Dg.pv))] [] e G J):LL a44 0 [(0,slice false 5 (F.map Dg.pv)),(1,slice false 5 (H.map Dg.pv)),(5,slice true 5 (M.map Dg.pv))] [] e G J:=
 BC [0,1,5] [sp 1 (Gq false 5 F),sp 0 (CF .i64 D),sp 7 (Gq false 5 H),sp 0 (Bz .i64 c2),sp 19 (Ka (o:=false) (s:=5) 0 a),sp 2 (Lf true O f),sp 1 (O0 (o:=false) b)] d
def eB(D:¬(F.length:Int) > 0)(c2:¬(H.length:Int) > 0):LL a44 0 [(0,slice false 5 (F.map Dg.pv)),(1,slice false 5 (H.map Dg.pv)),(5,slice true 5 (M.map Dg.pv))] [] (.exit 0) [(5,slice true 5 (M.map Dg.pv))] []:=
 Bw [5] [sp 1 (Gq false 5 F),sp 0 (Cz .i64 D),sq 2 (Gq false 5 H),sq 0 (Cz .i64 c2)]
def YS(D:(F.length:Int) > 0)(c2:(H.length:Int)≠0)(a:F[0]?=some O)(g:H[0]?=some aa)(K:(O.a:Int)<=(aa.a:Int))(d:F[0]?=some X)(h:M.length+1<=Bo)(b:1<=F.length)(f:LL a44 0 [(0,slice false 5 (F.tail.map Dg.pv)),(1,slice false 5 (H.map Dg.pv)),(5,slice true 5 ((M++[X]).map Dg.pv))] [] e G J):LL a44 0 [(0,slice false 5 (F.map Dg.pv)),(1,slice false 5 (H.map Dg.pv)),(5,slice true 5 (M.map Dg.pv))] [] e G J:=
 BC [0,1,5] [sp 1 (Gq false 5 F),sp 0 (CF .i64 D),sp 7 (Gq false 5 H),sp 0 (Bb .i64 c2),sq 2 (Gq false 5 F),sq 0 (CF .i64 D),sq 2 (Ka (o:=false) (s:=5) 0 a),sq 3 (Ka (o:=false) (s:=5) 0 g),sq 2 (KW .i64 K),sp 5 (Ka (o:=false) (s:=5) 0 d),sp 2 (Lf true X h),sp 1 (O0 (o:=false) b)] f
def YR(D:(F.length:Int) > 0)(c2:(H.length:Int)≠0)(a:F[0]?=some O)(g:H[0]?=some aa)(K:¬(O.a:Int)<=(aa.a:Int))(d:H[0]?=some X)(h:M.length+1<=Bo)(b:1<=H.length)(f:LL a44 0 [(0,slice false 5 (F.map Dg.pv)),(1,slice false 5 (H.tail.map Dg.pv)),(5,slice true 5 ((M++[X]).map Dg.pv))] [] e G J):LL a44 0 [(0,slice false 5 (F.map Dg.pv)),(1,slice false 5 (H.map Dg.pv)),(5,slice true 5 (M.map Dg.pv))] [] e G J:=
 BC [0,1,5] [sp 1 (Gq false 5 F),sp 0 (CF .i64 D),sp 7 (Gq false 5 H),sp 0 (Bb .i64 c2),sq 2 (Gq false 5 F),sq 0 (CF .i64 D),sq 2 (Ka (o:=false) (s:=5) 0 a),sq 3 (Ka (o:=false) (s:=5) 0 g),sq 2 (LC .i64 K),sp 5 (Ka (o:=false) (s:=5) 0 d),sp 2 (Lf true X h),sp 1 (O0 (o:=false) b)] f
def YQ(D:¬(F.length:Int) > 0)(c2:(H.length:Int) > 0)(K:(H.length:Int)≠0)(a:H[0]?=some O)(f:M.length+1<=Bo)(b:1<=H.length)(d:LL a44 0 [(0,slice false 5 (F.map Dg.pv)),(1,slice false 5 (H.tail.map Dg.pv)),(5,slice true 5 ((M++[O]).map Dg.pv))] [] e G J):LL a44 0 [(0,slice false 5 (F.map Dg.pv)),(1,slice false 5 (H.map Dg.pv)),(5,slice true 5 (M.map Dg.pv))] [] e G J:=
 BC [0,1,5] [sp 1 (Gq false 5 F),sp 0 (Cz .i64 D),sq 2 (Gq false 5 H),sq 0 (CF .i64 c2),sp 3 (Gq false 5 H),sp 0 (Bb .i64 K),sq 2 (Gq false 5 F),sq 0 (Cz .i64 D),sp 15 (Ka (o:=false) (s:=5) 0 a),sp 2 (Lf true O f),sp 1 (O0 (o:=false) b)] d
def CqI(a:LL a44 0 [(0,slice false 5 (A.map Dg.pv)),(1,nils),(5,slice true 5 [])] [] (.exit 0) [(5,slice true 5 (F.map Dg.pv))] []):EvE 44 [slF 5 (A.map Dg.pv),.nils] (slF 5 (F.map Dg.pv)):=
 rule R32 [sl 3 [0,1,5] a]
def Vi(D:(F.length:Int) > 0)(a:F[0]?=some O)(f:H.length+1<=Bo)(b:1<=F.length)(d:LL a44 0 [(0,slice false 5 (F.tail.map Dg.pv)),(1,nils),(5,slice true 5 ((H++[O]).map Dg.pv))] [] e G J):LL a44 0 [(0,slice false 5 (F.map Dg.pv)),(1,nils),(5,slice true 5 (H.map Dg.pv))] [] e G J:=
 BC [0,1,5] [sp 1 (Gq false 5 F),sp 0 (CF .i64 D),sp 28 (Ka (o:=false) (s:=5) 0 a),sp 2 (Lf true O f),sp 1 (O0 (o:=false) b)] d
def YP(D:¬(F.length:Int) > 0):LL a44 0 [(0,slice false 5 (F.map Dg.pv)),(1,nils),(5,slice true 5 (H.map Dg.pv))] [] (.exit 0) [(5,slice true 5 (H.map Dg.pv))] []:=
 Bw [5] [sp 1 (Gq false 5 F),sp 0 (Cz .i64 D)]
end
end Go.Abs.Z

namespace Go.Abs.Z
open Go.Proofs Go.RowKit
def f89(c:UInt8):E 192 [.int .u8 ((c.toNat:Nat):Int)] [] (.bool (whB c)) []:=by
 unfold whB;by_cases a:c=9
 ·subst a;exact BkJ rfl
 by_cases f:c=10
 ·subst f;exact BkI (by decide) rfl
 by_cases b:c=13
 ·subst b;exact BkH (by decide) (by decide) rfl
 have e:(((c.toNat:Nat):Int)==32)=(c==32):=by
  by_cases d:c=32
  ·subst d;rfl
  ·rw[beq_eq_false_iff_ne.2 d,beq_eq_false_iff_ne];exact λh=>d ((u8i c 32).1 h)
 have:=BkG (c:=c) (λh=>a ((u8i c 9).1 h)) (λh=>f ((u8i c 10).1 h)) (λh=>b ((u8i c 13).1 h))
 rw[e] at this;rw[beq_eq_false_iff_ne.2 a,beq_eq_false_iff_ne.2 f,beq_eq_false_iff_ne.2 b];simpa using this
def f90(c:UInt8):E 193 [.int .u8 ((c.toNat:Nat):Int)] [] (.bool (leB c)) []:=by
 unfold leB;by_cases h:97<=c.toNat
 ·have:=BkF (c:=c) am
  rw[decide_eq_true h,Da];have e:decide (((c.toNat:Nat):Int)<=122)=decide (c.toNat<=122):=by by_cases a:c.toNat<=122<;>simp[a]<;>omega
  rwa [e] at this
 ·rw[decide_eq_false h,FB];exact BkE am
def f91(c:UInt8):E 141 [.int .u8 ((c.toNat:Nat):Int)] [] (.bool (diB c)) []:=by
 unfold diB;by_cases h:48<=c.toNat
 ·have:=BkD (c:=c) am
  rw[decide_eq_true h,Da];have e:decide (((c.toNat:Nat):Int)<=57)=decide (c.toNat<=57):=by by_cases a:c.toNat<=57<;>simp[a]<;>omega
  rwa [e] at this
 ·rw[decide_eq_false h,FB];exact BkC am
def f92(w:List UInt8):E 194 [.str w] [] (.bool (kwL.contains w)) []:=r92 (xV kwL w (by decide))
def AJW:List (List UInt8):=[[61,61],[33,61],[60,61],[62,61]]
def sy2(c d:UInt8):AJW.contains [c,d]=decide (d=61/\(c=61\/c=33\/c=60\/c=62)):=by
 have h:∀x y:UInt8,(([c,d]:List UInt8)==[x,y])=(decide (c=x)&&decide (d=y)):=by
  intro x y;by_cases b:c=x<;>by_cases a:d=y<;>simp[b,a]
 simp only[AJW,BO,Cr,Db,h];by_cases b:d=61<;>by_cases a:c=61<;>by_cases g:c=33<;>by_cases f:c=60<;>by_cases e:c=62<;>simp[b,a,g,f,e]
def sy1(c:UInt8):∀l:List UInt8,(l.map λx=>[x]).contains [c]=l.contains c
 |[]=>rfl
 |x::l=>by
  rw[Bu,BO,BO,sy1 c l];congr 1;by_cases h:c=x<;>simp[h]
def f93(s:List UInt8)(u:s.length<1000000)(i:Nat)(hi:i<s.length):E 195 [.str s,N i] [] (N (Ib (s.drop i))) []:=by
 obtain⟨c,l,k,w,p⟩:=OJ hi;have f:=K8 s i (i+1);rw[k,show i+1 - i=1 by omega] at f
 have a:=xV (Hr.map λx=>[x]) [c] (by decide)
 rw[sy1] at a;rw[k];rcases Be (i+1) s.length with m | q
 ·obtain⟨d,o,n,v,t⟩:=OJ m;rw[p] at n;subst n;have j:=K8 s i (i+2);rw[k,show i+2 - i=2 by omega] at j
  have a2:=xV AJW [c,d] (by decide)
  rw[sy2] at a2;by_cases b:d=61/\(c=61\/c=33\/c=60\/c=62)
  ·rw[decide_eq_true b] at a2;have:Ib (c::d::o)=2:=by rw[Ib,if_pos ⟨by rw[b.1];rfl,b.2⟩]
   rw[this];exact BkB am am j a2
  ·rw[decide_eq_false b] at a2;have e:Ib (c::d::o)=if Hr.contains c then 1 else 0:=by rw[Ib,if_neg (λh=>b ⟨Option.some.inj h.1,h.2⟩)]
   rw[e];cases g:Hr.contains c with
   |true=>rw[g] at a;exact Bk8 am am j a2 f a
   |false=>rw[g] at a;exact Bk7 am am j a2 f a
 ·have r:l=[]:=by rw[<-p,AY];omega
  subst r;have e:Ib [c]=if Hr.contains c then 1 else 0:=by rw[Ib,if_neg (by simp)]
  rw[e];cases g:Hr.contains c with
  |true=>rw[g] at a;exact BkA am am f a
  |false=>rw[g] at a;exact Bk9 am am f a
def f94(s:List UInt8)(k:s.length<1000000)(i:Nat){c:UInt8}{l:List UInt8}(j:s.drop i=c::l)(b:s[i]?=some c)(hi:i<s.length):E 196 [.str s,N i] [] (.bool (leB c||diB c||Ib (c::l) != 0)) []:=by
 have a:=f90 c;have a2:=f91 c;cases f:leB c with
 |true=>rw[f] at a;exact Bk6 b a
 |false=>
  rw[f] at a;cases g:diB c with
  |true=>rw[g] at a2;exact Bk5 b a a2
  |false=>
   rw[g] at a2;have d:=f93 s k i hi;rw[j] at d;have:=Bk4 b a a2 d
   have e:decide (((Ib (c::l):Nat):Int) > 0)=(Ib (c::l) != 0):=by
    by_cases h:Ib (c::l)=0
    ·rw[h];rfl
    ·rw[decide_eq_true am,bne_iff_ne.2 h]
   rw[e] at this;simpa using this
def f40(s:List UInt8)(C:s.length<1000000)(i:Nat)(hi:i<=s.length):E 136 [.str s,N i] [] (N (i+skN false (s.drop i))) []:=by
 have v:∀(a:Nat) (n j:Nat),j<=s.length->s.length - j=n->
   LL OX 1 [(0,some (.str s)),(1,some (N j)),(10,some (.str s)),(11,some (N a)),(12,some (.int .u8 (((35:UInt8).toNat:Nat):Int))),(13,some (.bool false)),(14,some (.bool false)),(15,some (.str s)),(16,some (N a)),(17,some (.int .u8 (((35:UInt8).toNat:Nat):Int))),(18,some (.bool true)),(19,some (.bool true))] [] (.exit 2)
    [(0,some (.str s)),(1,some (N (j+Dc (· != 10) (s.drop j)))),(10,some (.str s)),(11,some (N a)),(12,some (.int .u8 (((35:UInt8).toNat:Nat):Int))),(13,some (.bool false)),(14,some (.bool false)),(15,some (.str s)),(16,some (N a)),(17,some (.int .u8 (((35:UInt8).toNat:Nat):Int))),(18,some (.bool true)),(19,some (.bool true))] []:=by
  intro a n
  induction n with
  |zero=>
   intro j B u;have:s.drop j=[]:=by rw[AY];omega
   rw[this];exact dV am
  |succ n p=>
   intro j B u;obtain⟨c,l,o,f,k⟩:=OJ (s:=s) (i:=j) am
   rw[o];by_cases b:c=10
   ·have e:Dc (· != 10) (c::l)=0:=by subst b;simp[Dc]
    rw[e];subst b;exact dU am f rfl
   ·have e:Dc (· != 10) (c::l)=1+Dc (· != 10) l:=by simp[Dc,BS,b];omega
    have:=p (j+1) am am
    rw[k] at this;rw[e,show j+(1+Dc (λx=>x != 10) l)=j+1+Dc (λx=>x != 10) l by omega]
    exact YE am f (λh=>b ((u8i c 10).1 h)) am this
 refine r40 ?_
 have q:∀(n i:Nat),i<=s.length->s.length - i<=n->LL OX 0 [(0,some (.str s)),(1,some (N i))] [] (.exit 0) [(1,some (N (i+skN false (s.drop i))))] []:=by
  intro n
  induction n with
  |zero=>
   intro i hi u;have:s.drop i=[]:=by rw[AY];omega
   rw[this];exact Q7 am
  |succ n p=>
   intro i hi u;rcases Be i s.length with t | z
   ·obtain⟨c,l,o,f,k⟩:=OJ t;have b:=f89 c;rw[o];cases g:whB c with
    |true=>
     rw[g] at b
     have r:((c.toNat:Nat):Int)≠35:=λh=>by
      have:=(u8i c 35).1 h;subst this;exact absurd g (by decide)
     have e:i+skN false (c::l)=i+1+skN false (s.drop (i+1)):=by rw[k,skN,if_pos g];omega
     rw[e];exact YG am f b r am (p (i+1) am am)
    |false=>
     rw[g] at b;by_cases d:c=35
     ·subst d;have m:=v i _ i hi rfl;have w:Dc (· != 10) (s.drop i)=1+Dc (· != 10) l:=by rw[o];simp[Dc,BS];omega
      have A:=J8 (· != 10) l;have y:l.length=s.length - (i+1):=by rw[<-k,Aw]
      have e:i+skN false ((35:UInt8)::l)=i+Dc (· != 10) (s.drop i)+skN false (s.drop (i+Dc (· != 10) (s.drop i))):=by
       rw[w,skN,if_neg (by rw[g];simp),if_pos rfl,jb,<-k,BZ,k]
       rw[show i+1+Dc (λx=>x != 10) l=i+(1+Dc (λx=>x != 10) l) by omega];omega
      rw[e];exact YF am f b rfl m (p (i+Dc (· != 10) (s.drop i)) am am)
     ·have e:skN false (c::l)=0:=by rw[skN,if_neg (by rw[g];simp),if_neg d]
      rw[e];exact dW am f b (λh=>d ((u8i c 35).1 h))
   ·have:s.drop i=[]:=by rw[AY];omega
    rw[this];exact Q7 am
 exact q _ i hi (Ai _)
def f41a(s:List UInt8)(r:s.length<1000000)(m:Nat):∀(n i:Nat),i<=s.length->s.length - i=n->LL JY 0 [(0,some (.str s)),(1,some (N m)),(6,some (N i))] [] (.exit 1) [(0,some (.str s)),(1,some (N m)),(6,some (N (i+Dc woB (s.drop i))))] []:=by
 intro n
 induction n with
 |zero=>
  intro i hi q;have:s.drop i=[]:=by rw[AY];omega
  rw[this];exact dS am
 |succ n d=>
  intro i hi q;obtain⟨c,l,o,j,p⟩:=OJ (s:=s) (i:=i) am
  have b:=f90 c;have a2:=f91 c;have d:=d (i+1) am am
  rw[p] at d;rw[o];have k:woB c=true->i+Dc woB (c::l)=i+1+Dc woB l:=λh=>by simp[Dc,BS,h];omega
  cases g:leB c with
  |true=>
   rw[g] at b;rw[k (by simp[woB,g])];exact YD am j b am d
  |false=>
   rw[g] at b;cases f:diB c with
   |true=>
    rw[f] at a2;rw[k (by simp[woB,f])];exact YC am j b a2 am d
   |false=>
    rw[f] at a2;by_cases a:c=95
    ·rw[k (by simp[woB,a])];subst a;exact YB am j b a2 rfl am d
    ·have e:Dc woB (c::l)=0:=by simp[Dc,BS,woB,g,f,a]
     rw[e];exact dR am j b a2 (λh=>a ((u8i c 95).1 h))
def f41b(s:List UInt8)(k:s.length<1000000)(d:Nat):∀(n i:Nat),i<=s.length->s.length - i=n->LL JY 1 [(0,some (.str s)),(1,some (N d)),(6,some (N i))] [] (.exit 3) [(0,some (.str s)),(1,some (N d)),(6,some (N (i+Dc diB (s.drop i))))] []:=by
 intro n
 induction n with
 |zero=>
  intro i hi j;have:s.drop i=[]:=by rw[AY];omega
  rw[this];exact dQ am
 |succ n b=>
  intro i hi j;obtain⟨c,l,g,f,h⟩:=OJ (s:=s) (i:=i) am
  have a2:=f91 c;have b:=b (i+1) am am
  rw[h] at b;rw[g];cases a:diB c with
  |true=>
   rw[a] at a2;have e:i+Dc diB (c::l)=i+1+Dc diB l:=by simp[Dc,BS,a];omega
   rw[e];exact YA am f a2 am b
  |false=>
   rw[a] at a2;have e:Dc diB (c::l)=0:=by simp[Dc,BS,a]
   rw[e];exact dP am f a2
def f41c(s:List UInt8)(q:s.length<1000000)(p:Nat):∀(n i:Nat),i<=s.length->s.length - i=n->LL JY 2 [(0,some (.str s)),(1,some (N p)),(6,some (N i))] [] (.exit 5) [(0,some (.str s)),(1,some (N p)),(6,some (N (i+wrN (s.drop i))))] []:=by
 intro n
 induction n with
 |zero=>
  intro i hi r;have:s.drop i=[]:=by rw[AY];omega
  rw[this];exact dO am
 |succ n m=>
  intro i hi r;obtain⟨c,l,o,g,t⟩:=OJ (s:=s) (i:=i) am
  have d:=f89 c;have a4:=f94 s q i o g am
  have m:=m (i+1) am am
  rw[t] at m;rw[o];have a:J3 c l=true->wrN (c::l)=0:=λh=>by rw[wrN,if_pos h]
  cases k:whB c with
  |true=>rw[k] at d;rw[a (by simp[J3,k])];exact dN am g d
  |false=>
   rw[k] at d;by_cases b:c=35
   ·rw[a (by simp[J3,b])];subst b;exact dM am g d rfl
   have f:((c.toNat:Nat):Int)≠35:=λh=>b ((u8i c 35).1 h)
   cases j:(leB c||diB c||Ib (c::l) != 0) with
   |true=>
    rw[j] at a4;rw[a (by unfold J3;rw[FZ,FZ,<-FZ (leB c),j];simp)];exact dL am g d f a4
   |false=>
    rw[j] at a4
    have e:wrN (c::l)=1+wrN l:=by
     rw[wrN,if_neg];unfold J3;rw[FZ,FZ,<-FZ (leB c),j,k];simp[b]
    rw[e,show i+(1+wrN l)=i+1+wrN l by omega]
    exact Yz am g d f a4 am m
def f41(s:List UInt8)(g:s.length<1000000)(i:Nat){c:UInt8}{l:List UInt8}(a:s.drop i=c::l)(q:whB c=false)(m:c≠35):E 137 [.str s,N i] [] (.tuple [N (Ia (s.drop i)).1,N (i+(Ia (s.drop i)).2)]) []:=by
 have hi:i<s.length:=by
  rcases Be i s.length with h | h
  ·exact h
  ·rw[Co h] at a;cases a
 obtain⟨c',u,f,b,v⟩:=OJ hi;rw[a] at f;obtain⟨rfl,rfl⟩:=List.cons.inj f;have a2:=f90 c;have d:=f91 c;unfold Ia;have t:(s.drop i).headD 0=c:=by rw[a];rfl
 have r:(s.drop i).tail=l:=by rw[a];rfl
 rw[t,r];cases n:leB c with
 |true=>
  rw[n] at a2;have a4:=f41a s g i _ i am rfl
  have j:=J8 woB (s.drop i);rw[Aw] at j;have a5:=K8 s i (i+Dc woB (s.drop i));rw[show i+Dc woB (s.drop i) - i=Dc woB (s.drop i) by omega] at a5
  have a6:=f92 ((s.drop i).take (Dc woB (s.drop i)));simp only[if_true];cases p:kwL.contains ((s.drop i).take (Dc woB (s.drop i))) with
  |true=>rw[p] at a6;exact Bw9 b a2 a4 a5 a6
  |false=>rw[p] at a6;exact Bw8 b a2 a4 a5 a6
 |false=>
  rw[n] at a2;simp only[Bool.false_eq_true,if_false];cases o:diB c with
  |true=>
   rw[o] at d;simp only[if_true];exact Bw7 b a2 d (f41b s g i _ i am rfl)
  |false=>
   rw[o] at d;simp only[Bool.false_eq_true,if_false];have a4:=f93 s g i hi;have:=RS (s.drop i);rw[Aw] at this;by_cases k:0<Ib (s.drop i)
   ·rw[if_pos k];exact Bw6 b a2 d a4 am a4 am am
   ·rw[if_neg k];have a5:=f41c s g i _ i am rfl
    have e:wrN (s.drop i)=1+wrN l:=by
     rw[a,wrN,if_neg];rw[a] at k;have:Ib (c::l)=0:=am
     simp[J3,q,m,n,o,this]
    rw[e] at a5;exact Bw5 b a2 d a4 am a5
def O3:∀(b:Bool) (l:List UInt8) {c:UInt8} {r:List UInt8},l.drop (skN b l)=c::r->whB c=false/\c≠35
 |b,[],c,r,h=>by cases b<;>simp[skN] at h
 |true,d::l,c,r,h=>by
  rw[skN] at h;by_cases f:d=10
  ·rw[if_pos f,Cm,Cj] at h;exact O3 false l h
  ·rw[if_neg f,Cm,Cj] at h;exact O3 true l h
 |false,d::l,c,r,h=>by
  rw[skN] at h;by_cases g:whB d=true
  ·rw[if_pos g,Cm,Cj] at h;exact O3 false l h
  ·rw[if_neg g] at h;by_cases e:d=35
   ·rw[if_pos e,Cm,Cj] at h;exact O3 true l h
   ·rw[if_neg e,DZ] at h;cases h;exact⟨by simpa using g,e⟩
def BjS(s:List UInt8)(e:s.length<1000000):∀(n f:Nat) (d:List Tk),f<=s.length->s.length - f<n->d.length+n<=2000000->
  LL a80 0 [(0,some (.str s)),(4,some (.slice true 4 (d.map Tk.pv))),(5,some (N f))] [] .ret [(2,some (.slice true 4 ((d++JK n (s.drop f) f).map Tk.pv))),(3,some (I 0))] []
 |0,f,d,_,h,_=>am
 |n+1,f,d,p,h,v=>by
  have k:=f40 s e f p;have l:=Mi false (s.drop f);rw[Aw] at l;have j:d.length+1<=Bo:=by unfold Bo;omega
  rw[JK];by_cases b:(s.drop f).drop (skN false (s.drop f))=[]
  ·simp only[b,if_true];rw[BZ,AY] at b;exact eH (m2:=f+skN false (s.drop f)) k am j
  ·have a:∃c r,(s.drop f).drop (skN false (s.drop f))=c::r:=by
    cases o:(s.drop f).drop (skN false (s.drop f)) with
    |nil=>exact absurd o b
    |cons c r=>exact⟨c,r,rfl⟩
   obtain⟨c,r,a⟩:=a;obtain⟨t,m⟩:=O3 false _ a;simp only[b,if_false];rw[BZ] at b a
   have q:f+skN false (s.drop f) < s.length:=by
    rcases Be (f+skN false (s.drop f)) s.length with i | i
    ·exact i
    ·exact absurd (AY.2 am) b
   have a2:=f41 s e (f+skN false (s.drop f)) a t m;have u:=XY b;rw[Aw] at u;have:=BjS s e n (f+skN false (s.drop f)+(Ia (s.drop (f+skN false (s.drop f)))).2) (d++[⟨(Ia (s.drop (f+skN false (s.drop f)))).1,f,f+skN false (s.drop f),f+skN false (s.drop f)+(Ia (s.drop (f+skN false (s.drop f)))).2⟩]) am am (by simp;omega)
   rw[AC] at this;simp only[BZ];exact Y0 k am a2 j this
def f18(s:List UInt8)(a:s.length<=4096):E 80 [.str s] [] (.tuple [slF 4 ((Gl s).map Tk.pv),I 0]) []:=
 BQ2 am (BjS s am (s.length+1) 0 [] am am (by simp;omega))
def n64(w:List UInt8)(k:w.length<=9):∀(n j:Nat) (z:Int),j+n=w.length->
  (∃g,w.length<=j+Dc diB (w.drop j)/\LL a89 0 [(0,some (.str w)),(4,some (I z)),(5,some (N j))] [] (.exit 0) [(0,some (.str w)),(4,some (I g))] []) \/
  (j+Dc diB (w.drop j) < w.length/\LL a89 0 [(0,some (.str w)),(4,some (I z)),(5,some (N j))] [] .ret [(2,some (I 0)),(3,some (.bool false))] [])
 |0,j,z,h=>.inl ⟨z,am,dG am⟩
 |n+1,j,z,h=>by
  obtain⟨c,l,o,f,i⟩:=OJ (s:=w) (i:=j) am
  have a2:=f91 c;rw[o];cases b:diB c with
  |true=>
   rw[b] at a2;have e:j+Dc diB (c::l)=j+1+Dc diB l:=by simp[Dc,BS,b];omega
   rw[e];rcases n64 w k n (j+1) _ am with⟨g,a,d⟩ | ⟨a,d⟩
   ·rw[i] at a;exact .inl ⟨g,a,Pe am f a2 rfl rfl rfl rfl am d⟩
   ·rw[i] at a;exact .inr ⟨a,Pe am f a2 rfl rfl rfl rfl am d⟩
  |false=>
   rw[b] at a2;have e:Dc diB (c::l)=0:=by simp[Dc,BS,b]
   rw[e];exact .inr ⟨am,dF am f a2⟩
def f64(w:List UInt8):∃z,E 89 [.str w] [] (.tuple [I z,.bool (ML w)]) []:=by
 by_cases d:w.length<1
 ·have:ML w=false:=by
   have:w=[]:=Ak.1 am
   subst this;rfl
  rw[this];exact⟨0,BvO am⟩
 ·by_cases f:9<w.length
  ·have:ML w=false:=by simp[ML];omega
   rw[this];exact⟨0,BvN am am⟩
  ·have a:w≠[]:=λh=>d (by rw[h];simp)
   rcases n64 w am w.length 0 0 am with⟨e,b,c⟩ | ⟨b,c⟩
   ·rw[DZ,BB] at b;have:ML w=true:=by simp[ML];exact⟨a,am,am⟩
    rw[this];exact⟨e,BvM am am c⟩
   ·rw[DZ,BB] at b;have:ML w=false:=by simp[ML];omega
    rw[this];exact⟨0,BvL am am c⟩
def Sd.Xz{a:Dg}{A B R:List Dg}(h:Sd (A++B) R)(c:∀x∈A++B,a.a<=x.a):Sd ((a::A)++B) (a::R):=by
 refine⟨CB.2 ⟨λx b=>c x (h.mem.1 b),h.asc⟩,h.perm.cons a,λk=>?_⟩
 have:=h.keep k;simp only[fk,Bg,EU] at this ⊢;rw[this]
def Sd.UA{b:Dg}{A B R:List Dg}(h:Sd (A++B) R)(d:∀x∈A,b.a<x.a)(g:∀x∈B,b.a<=x.a):Sd (A++b::B) (b::R):=by
 have e:A++b::B=(A++[b])++B:=by simp
 refine⟨CB.2 ⟨λx a=>?_,h.asc⟩,(h.perm.cons b).trans ?_,λk=>?_⟩
 ·rcases Bv.1 (h.mem.1 a) with a | a
  ·exact DJ (d x a)
  ·exact g x a
 ·exact List.perm_middle.symm
 ·have c:=h.keep k
  have i:=mY (k:=k) (u:=A) (v:=[b]) λx a y f=>by
   rw[BR] at f;subst f;have:=d x a;omega
  rw[e,Gx,i,<-Gx];simp only[fk,Bg,Bn,EU] at c ⊢;rw[c]
def PU{a:Dg}{A:List Dg}:Asc (a::A)↔(∀x∈A,a.a<=x.a)/\Asc A:=CB
def Pv:∀(n:Nat) (A B c:List Dg),A.length+B.length=n->c.length+n<1000000->Asc A->Asc B->
  ∃R,LL a44 0 [(0,some (slF 5 (A.map Dg.pv))),(1,some (slF 5 (B.map Dg.pv))),(5,some (.slice true 5 (c.map Dg.pv)))] [] (.exit 0) [(5,some (.slice true 5 ((c++R).map Dg.pv)))] []/\Sd (A++B) R
 |n,[],[],c,h,l,i,g=>⟨[],by rw[Az];exact eB (by simp) (by simp),Sd.refl List.Pairwise.nil⟩
 |0,a::A,B,c,h,l,i,g=>by simp at h
 |0,[],b::B,c,h,l,i,g=>by simp at h
 |n+1,a::A,[],c,h,l,i,g=>by
  simp only[Ah,Ba] at h;obtain⟨k,a2⟩:=PU.1 i;obtain⟨R,f,j⟩:=Pv n A [] (c++[a]) (by simp<;>omega) (by simp<;>omega) a2 g
  rw[AC] at f;exact⟨a::R,YT (by simp<;>omega) (by simp) rfl (by unfold Bo;omega) (by simp) f,j.Xz (by simpa using k)⟩
 |n+1,[],b::B,c,h,l,i,g=>by
  simp only[Ah,Ba] at h;obtain⟨k,a2⟩:=PU.1 g;obtain⟨R,f,j⟩:=Pv n [] B (c++[b]) (by simp<;>omega) (by simp<;>omega) i a2
  rw[AC] at f;exact⟨b::R,YQ (by simp) (by simp<;>omega) (by simp<;>omega) rfl (by unfold Bo;omega) (by simp) f,j.UA (λx e=>by cases e) k⟩
 |n+1,a::A,b::B,c,h,l,i,g=>by
  simp only[Ah] at h;obtain⟨k,a2⟩:=PU.1 i;obtain⟨m,p⟩:=PU.1 g;by_cases o:a.a<=b.a
  ·obtain⟨R,f,j⟩:=Pv n A (b::B) (c++[a]) (by simp<;>omega) (by simp<;>omega) a2 g
   rw[AC] at f;refine⟨a::R,YS (by simp<;>omega) (by simp<;>omega) rfl rfl am rfl (by unfold Bo;omega) (by simp) f,j.Xz λx e=>?_⟩
   rcases Bv.1 e with e | e
   ·exact k x e
   ·rcases AU.1 e with rfl | e
    ·exact o
    ·exact Bf o (m x e)
  ·obtain⟨R,f,j⟩:=Pv n (a::A) B (c++[b]) (by simp<;>omega) (by simp<;>omega) i p
   rw[AC] at f;refine⟨b::R,YR (by simp<;>omega) (by simp<;>omega) rfl rfl am rfl (by unfold Bo;omega) (by simp) f,j.UA (λx e=>?_) m⟩
   rcases AU.1 e with rfl | e
   ·omega
   ·have:=k x e;omega
def wG:∀(A b:List Dg),b.length+A.length<1000000->
  LL a44 0 [(0,some (slF 5 (A.map Dg.pv))),(1,some .nils),(5,some (.slice true 5 (b.map Dg.pv)))] [] (.exit 0) [(5,some (.slice true 5 ((b++A).map Dg.pv)))] []
 |[],b,e=>by rw[Az];exact YP (by simp)
 |a::A,b,e=>by
  simp only[Ah] at e;have d:=wG A (b++[a]) (by simp<;>omega)
  rw[AC] at d;exact Vi (by simp<;>omega) rfl (by unfold Bo;omega) (by simp) d
def f32{A B:List Dg}(a:Asc A)(e:Asc B)(c:A.length+B.length<1000000):∃R,E 44 [slF 5 (A.map Dg.pv),Ci 5 (B.map Dg.pv)] [] (slF 5 (R.map Dg.pv)) []/\Sd (A++B) R:=by
 cases B with
 |nil=>exact⟨A,CqI (wG A [] (by simpa using c)),by rw[Az];exact Sd.refl a⟩
 |cons b B=>
  obtain⟨R,f,d⟩:=Pv _ A (b::B) [] rfl (by simpa using c) a e
  exact⟨R,r32 f,d⟩
def mD(s:List UInt8)(y:s.length<=4096)(d:List Tk)(w:d.length<=5000):∀(c a:List Tk),d=a++c->(∀t∈c,t.a<=t.e/\t.e<=s.length)->
  LL a45 0 [(0,some (.str s)),(3,some (.slice true 5 ((Ip s a).map Dg.pv))),(4,some (slF 4 (d.map Tk.pv))),(6,some (N a.length))] [] (.exit 0) [(0,some (.str s)),(3,some (.slice true 5 ((Ip s d).map Dg.pv)))] []
 |[],a,e,_=>by
  rw[Az] at e;subst e;exact eu am
 |t::c,a,e,o=>by
  have q:d.length=a.length+(c.length+1):=by rw[e];simp
  have f:=mD s y d w c (a++[t]) (by rw[e];simp) (λu x=>o u (by simp[x]))
  have b:d[a.length]?=some t:=by rw[e];simp
  obtain⟨l,v⟩:=o t (by simp)
  have i:E 90 [.str s,t.pv] [] (.str (wd s t)) []:=r65 (K8 s t.a t.e l v);have C:(wd s t).length=t.e - t.a:=by simp only[wd,AA,Aw];omega
  rw[Ae,DX] at f;have B:(Ip s a).length<=a.length:=Ni s a
  have A:Ip s (a++[t])=if I8 s t=0 then Ip s a else Ip s a++[⟨I8 s t,t.a,t.e,[]⟩]:=by
   rw[Py];simp only[Ip];split<;>simp
  have n:(Ip s a).length+1<=Bo:=by unfold Bo;omega
  obtain⟨z,h⟩:=f64 (wd s t);rw[A] at f;by_cases p:t.k=4
  ·have g:I8 s t=1:=by simp[I8,p]
   rw[g,if_neg (by decide)] at f
   exact YO am b i h b am b b n am f
  ·by_cases c2:t.k=2
   ·cases k:ML (wd s t) with
    |true=>
     have g:I8 s t=0:=by simp[I8,c2,k]
     rw[g,if_pos rfl] at f;rw[k] at h;exact YL am b i h b am b am b am am f
    |false=>
     have g:I8 s t=2:=by simp[I8,c2,k]
     rw[g,if_neg (by decide)] at f
     rw[k] at h;exact YN am b i h b am b am b b n am f
   ·by_cases m:t.k=0
    ·by_cases r:16<(wd s t).length
     ·have g:I8 s t=3:=by simp[I8,m,r]
      rw[g,if_neg (by decide)] at f
      exact YK am b i h b am b am b am b b l am am b b n am f
     ·have g:I8 s t=0:=by simp[I8,m,r]
      rw[g,if_pos rfl] at f;exact YJ am b i h b am b am b am b b l am am am f
    ·have g:I8 s t=0:=by simp[I8,m,c2,p]
     rw[g,if_pos rfl] at f;exact YM am b i h b am b am b am am f
def f33(s:List UInt8)(b:s.length<=4096):E 45 [.str s] [] (slF 5 ((Gn s).map Dg.pv)) []:=by
 have d:(Gl s).length<=s.length+1:=IR (s.length+1) s 0;have c:=(LQ s (s.length+1) 0 am am).wf
 exact r33 (f18 s b) (mD s b (Gl s) am (Gl s) [] rfl (λt a=>⟨(c t a).1.ord.1,(c t a).1.ord.2.1⟩))
def BjI(s:List UInt8)(b:List Tk)(k:b.length<=5000):∀(c a:List Tk),b=a++c->
  LL a36 0 [(3,some rf),(4,some (slF 4 (b.map Tk.pv))),(6,some (N a.length))] [y0 s (BI 4 ((good a).map Tk.pv))] (.exit 0) [(3,some rf)] [y0 s (BI 4 ((good b).map Tk.pv))]
 |[],a,e=>by
  rw[Az] at e;subst e;exact eF am
 |t::c,a,e=>by
  have g:b.length=a.length+(c.length+1):=by rw[e];simp
  have d:=BjI s b k c (a++[t]) (by rw[e];simp)
  have f:b[a.length]?=some t:=by rw[e];simp
  rw[Ae,DX] at d
  have l:good (a++[t])=if t.k=4 then good a else good a++[t]:=by
   unfold good;rw[E9];by_cases h:t.k=4
   ·simp[h]
   ·simp[h]
  have m:(good a).length<=a.length:=Ew _ _;rw[l] at d;by_cases j:t.k=4
  ·rw[if_pos j] at d;exact YV am f am am d
  ·rw[if_neg j,BV,List.map_singleton] at d;exact YW am f am f (by rw[Ap];unfold Bo;omega) am d
def f24(s:List UInt8)(b:s.length<=4096):E 36 [.str s] [] rf (RS4 s (BL s) 0 []):=by
 have d:(Gl s).length<=s.length+1:=IR (s.length+1) s 0;have h:=BjI s (Gl s) am (Gl s) [] rfl
 have a:=(J7 s).len
 have e:[y0 s (BI 4 ((BL s).map Tk.pv))]=RS4 s (BL s) 0 []:=by
  cases c:BL s with
  |nil=>rw[c] at a;cases a
  |cons t ts=>rfl
 rw[<-e];exact r24 (f18 s b) h
def AzS(s:List UInt8)(m:s.length<=4096):Asc (Gn s):=by
 have j:=(LQ s (s.length+1) 0 am am).ord
 have:∀l:List Tk,(l.Pairwise λt u=>t.a<u.a/\t.e<=u.a)->Asc (Ip s l)/\∀d∈Ip s l,∃t∈l,t.a=d.a:=by
  intro l
  induction l with
  |nil=>exact λ_=>⟨List.Pairwise.nil,λd h=>by cases h⟩
  |cons t l k=>
   intro h;obtain⟨g,i⟩:=CB.1 h;obtain⟨f,c⟩:=k i;rw[Ip];split
   ·exact⟨f,λd a=>by obtain⟨u,b,e⟩:=c d a;exact⟨u,by simp[b],e⟩⟩
   ·refine⟨CB.2 ⟨λd a=>?_,f⟩,λd a=>?_⟩
    ·obtain⟨u,b,e⟩:=c d a;have:=(g u b).1;show t.a<=d.a;omega
    ·rcases AU.1 a with rfl | a
     ·exact⟨t,by simp,rfl⟩
     ·obtain⟨u,b,e⟩:=c d a;exact⟨u,by simp[b],e⟩
 exact(this _ j).1
def prR(s:List UInt8)(ls:List Tk)(a:List AT):Tr:=.mk 2 [] 0 (s.length:Nat) false (Fs ls a)
section
variable{s:List UInt8}
def f9(b:s.length<=4096){n:Nat}(j:n<=I9){v:Rs}{k:Nat}{D:List AD}(h:runN (wAt s (BL s)) n (.pg []) 0 []=some (v,k,D))(p:(wAt s (BL s) k).1=5):
  ∃R m,Sd (Gn s++dgs (BL s) (KY (wAt s (BL s)) k D)) R/\E 11 [.str s] [] (.tuple [(prR s (BL s) v.2).pv,slF 5 (R.map Dg.pv),I 0]) m:=by
 have H:=J7 s;obtain⟨ok,i⟩:=okR H n j;have a:Dok 0 []:=⟨List.Pairwise.nil,λd h=>by cases h⟩
 have l:=i _ _ _ _ _ _ h (Ca _) a (by simp;omega)
 obtain⟨u,f,c⟩:=ok _ _ _ _ h (Ca _) a;have f:k<=(BL s).length - 1:=f;have c:Dok k D:=c;obtain⟨t,r⟩:=Qk b;have q:=AzL (w:=wAt s (BL s)) c;obtain⟨R,g,o⟩:=f32 (AzS s b) (AzT H (w:=wAt s (BL s)) c f) (by simp only[dgs,Ap];omega)
 have e:KY (wAt s (BL s)) k D=D:=by unfold KY;rw[if_pos p]
 rw[xY,e] at g;refine⟨R,RS4 s (BL s) k D,o,?_⟩
 exact CqF am (f24 s b) l (f33 s b) ldQ g
end
section
variable{ls:List Tk}
def AjG:∀x:AT,(trR ls x).st=(trP ls x).st
 |.mk kd tx f k b ks=>by
  rw[trR,trP];show(match Fs ls ks with | []=>if f<k then((tA ls f:Nat):Int) else(en ls k:Nat) | u::_=>min (if f<k then((tA ls f:Nat):Int) else(en ls k:Nat)) u.st)=(match Fh ls ks with | []=>if f<k then((tA ls f:Nat):Int) else(en ls k:Nat) | u::_=>min (if f<k then((tA ls f:Nat):Int) else(en ls k:Nat)) u.st)
  cases ks with
  |nil=>rfl
  |cons x xs=>
   show min _ (trR ls x).st=min _ (trP ls x).st;rw[AjG x]
mutual
def AzQ:∀x:AT,(trP ls x).bare=(trR ls x).bare
 |.mk kd tx f k b ks=>by
  have h:=UM ks;have hst:=AjG (ls:=ls) (.mk kd tx f k b ks);rw[trR,trP] at hst ⊢;rw[Tr.bare,Tr.bare,h];exact congrArg (λz=>Tr.mk _ _ z _ false _) hst.symm
def UM:∀xs:List AT,I1 (Fh ls xs)=I1 (Fs ls xs)
 |[]=>rfl
 |x::xs=>by rw[Fh,Fs,I1,I1,AzQ x,UM xs]
end
mutual
def AJP:∀x:AT,(trR ls x).wf
 |.mk kd tx f k b ks=>⟨λh=>by
   have:=DF.1 (Ce.1 h).1;subst this;rfl,XT ks⟩
def XT:∀xs:List AT,Tr.wfs (Fs ls xs)
 |[]=>trivial
 |x::xs=>⟨AJP x,XT xs⟩
end
end
mutual

def Tr.zD:Tr->Prop
 |.mk _ _ _ _ _ ks=>ks.length<1000000000/\lm ks
def lm:List Tr->Prop
 |[]=>True
 |x::xs=>x.zD/\lm xs
end
mutual
def zk{ls:List Tk}:∀x:AT,x.ok->(trP ls x).zD
 |.mk kd tx f k b ks,h=>⟨by show(Fh ls ks).length<_;rw[LJ];exact h.2.1,Sq ks f k h.2.2⟩
def Sq{ls:List Tk}:∀(xs:List AT) (lo hi:Nat),oks lo hi xs->lm (Fh ls xs)
 |[],_,_,_=>trivial
 |x::xs,lo,hi,h=>⟨zk x h.2.1,Sq xs _ _ h.2.2⟩
end
mutual
def BVC:∀A B:Tr,A.wf->A.zD->B.wf->E 111 [A.pv,B.pv] [] (.bool (A.eqv B)) []
 |.mk k t a e n ks,B,wA,sA,wB=>Bq0 wA wB (by show ks.length<_;have:=sA.1;omega) λi U V hU hV=>AZ8 ks wA.2 sA.2 U (Am hU) V (AUC wB hV)
def AZ8:∀xs:List Tr,Tr.wfs xs->lm xs->∀U∈xs,∀V:Tr,V.wf->E 111 [U.pv,V.pv] [] (.bool (U.eqv V)) []
 |[],_,_,U,h=>by cases h
 |x::xs,w,hs,U,h=>λV wV=>by
  rcases AU.1 h with e | h
  ·rw[e];exact BVC x V w.1 hs.1 wV
  ·exact AZ8 xs w.2 hs.2 U h V wV
end
mutual
def TG:∀T:Tr,T.wf->∀U∈T.nds,U.wf/\U.nds.length<=T.nds.length
 |.mk k t a e n ks,w,U,h=>by
  rw[Tr.nds] at h;rcases AU.1 h with rfl | h
  ·exact⟨w,Ai _⟩
  ·obtain⟨h1,h2⟩:=mo ks w.2 U h;exact⟨h1,by rw[Tr.nds,Ah];omega⟩
def mo:∀xs:List Tr,Tr.wfs xs->∀U∈CV xs,U.wf/\U.nds.length<=(CV xs).length
 |[],_,U,h=>by cases h
 |x::xs,w,U,h=>by
  rw[CV] at h;rcases Bv.1 h with h | h
  ·obtain⟨h1,h2⟩:=TG x w.1 U h;exact⟨h1,by rw[CV,Ae];omega⟩
  ·obtain⟨h1,h2⟩:=mo xs w.2 U h;exact⟨h1,by rw[CV,Ae];omega⟩
end
mutual
def wC{ls:List Tk}:∀x:AT,(trR ls x).nds.length=x.size
 |.mk kd tx f k b ks=>by
  rw[Eo,Ah,AT.size];show(CV (Fs ls ks)).length+1=_;rw[QC ks];omega
def QC{ls:List Tk}:∀xs:List AT,(CV (Fs ls xs)).length=sizes xs
 |[]=>rfl
 |x::xs=>by rw[Fs,CV,Ae,wC x,QC xs,sizes]
end
def oP{ks:List Tr}{U:Tr}(b:U∈CV ks):∀y∈U.kids,y∈CV ks:=by
 have c:∀(n:Nat) (ks:List Tr),(CV ks).length<=n->∀U∈CV ks,∀y∈U.kids,y∈CV ks:=by
  intro n
  induction n with
  |zero=>intro ks h U b;rw[Ak.1 (Nat.le_zero.1 h)] at b;cases b
  |succ n f=>
   intro ks h U b y e;obtain⟨k,d,a⟩:=TH b;rw[Eo] at a;rcases AU.1 a with rfl | a
   ·exact Ja d y (by rw[Eo];exact AP _ (Ja e y (by rw[Eo];exact AV ..)))
   ·have g:=xc d;have i:=Pt k;exact Ja d y (by rw[Eo];exact AP _ (f k.kids am U a y e))
 exact c _ ks (Ai _) U b
structure bv(s:List UInt8)(T:Tr):Prop where
 k:T.kind=2
 wf:∀x∈T.nds,x.wf
 read:∃w,E 56 [.str s,T.pv] [] (.tuple [srV s T (Gl s) w,.bool true]) []/\(w=false->Few T/\T.nds.length<=300000/\∀y∈CV T.kids,KN s y)
def AxH(s:List UInt8)(c:s.length<=4096):∃(T:Tr) (D:PV) (d:List Dg) (q:Sto),E 11 [.str s] [] (.tuple [T.pv,D,I 0]) q/\DL D d/\bv s T:=by
 have H:=J7 s;obtain⟨v,k,D,h⟩:=runs s c (.pg []) trivial (by simp)
 obtain⟨n,P,t⟩:=AqK s c h;have g:=vD (w5 (J7 s)) 100000 [] 0 [] v k D am h (Ca _) ⟨List.Pairwise.nil,λd h=>by cases h⟩
 obtain⟨b1,G⟩:=t (by simp)
 have bk:=G 0 (Ai _);obtain⟨R1,B,w⟩:=e8 (s:=s) c (n:=100000) (by decide) h
 obtain⟨R2,j,Q,A⟩:=f9 (s:=s) c (n:=100000) (by decide) h g
 have z:(prT s (BL s) v.2).wf:=⟨λh=>Oj _ h,XU _⟩
 have b:(prR s (BL s) v.2).wf:=⟨λh=>(by cases h),XT _⟩
 have l:(prT s (BL s) v.2).zD:=⟨by show(Fh _ _).length<_;rw[LJ];exact b1,Sq _ _ _ bk⟩
 have a:(prT s (BL s) v.2).bare=(prR s (BL s) v.2).bare:=by
  unfold prT prR;rw[Tr.bare,Tr.bare,UM]
 have f:=BVC _ _ z l b;rw[(mZ _ _).2 a] at f;have e:∀x∈(prR s (BL s) v.2).nds,x.wf:=λx i=>(TG _ b x i).1
 refine⟨_,_,R2,j,A,.inr rfl,rfl,e,_,BU7 (x:=prR s (BL s) v.2) rfl w (e97 s c) f,λr=>?_⟩
 have J:R1.length=0:=by
  have:=of_decide_eq_false r;rw[Ap] at this;omega
 have u:D=[]:=by
  have:=B.len;rw[Ae,J] at this
  have o:(KY (wAt s (BL s)) k D).length=0:=by
   have L:(dgs (BL s) (KY (wAt s (BL s)) k D)).length=(KY (wAt s (BL s)) k D).length:=Ap _;omega
  have F:KY (wAt s (BL s)) k D=D:=by unfold KY;rw[if_pos g]
  rw[F] at o;exact Ak.1 o
 obtain⟨N,c2⟩:=bW 100000 (.pg []) 0 [] _ h;obtain⟨⟨_,C⟩,m⟩:=(c2 u).2 trivial;have m:sizes v.2+4 * 0<=sizes []+4 * k:=m;obtain⟨K,_⟩:=Qk c
 have O:(prR s (BL s) v.2).nds.length<=20000:=by
  rw[Eo,Ah];show(CV (Fs (BL s) v.2)).length+1<=_;rw[QC];simp only[sizes] at m;omega
 refine⟨λx i=>⟨e x i,?_⟩,am,AUB a λy p=>?_⟩
 ·have R:=(TG _ b x i).2;have M:=Pt x;have o:=Sb x.kids;omega
 ·exact⟨BQC H bk n y p,aj _ _ _ (AYR H bk n) y p,iL H v.2 0 k bk n C y p⟩
def yj{s:List UInt8}{g:FuncId}{K:Tr}{T:Tr}{ts:List Tk}{w:Bool}{cs:List PV}(h:Ed s g (srV s T ts w::K.pv::cs))(f:pur g=true)(c:cs.map PV.Ag=cs/\cs.all PV.flat=true):
  ∃a b t z,Bt pur run (.w .DC) [.func g [] cs,srV s T ts w,K.pv] [] [some (.tuple [.agg [I a,I b,.str t],I z])] []/\(z=0->GdE s a b t):=by
 obtain⟨a,b,t,z,e,d⟩:=h;exact⟨a,b,t,z,KE e f (by simp[c.1]) (by simp) (by simp[c.2]) rfl rfl,d⟩
def w18{s:List UInt8}{T:Tr}{X:PV}{p:List Int}(O:s.length<=400)(d:KI X p)(Q:p.length<=20)(n:bv s T){g:FuncId}{cs:List PV}
  (J:∀K,Few T->T.nds.length<=300000->T.at_ p=some K->KS s K->∃a b t z,Bt pur run (.w .DC) [.func g [] cs,srV s T (Gl s) false,K.pv] [] [some (.tuple [.agg [I a,I b,.str t],I z])] []/\(z=0->GdE s a b t)):Ed s 18 [.str s,T.pv,X,.func g [] cs]:=by
 obtain⟨w,f,E⟩:=n.read;cases w
 case true=>exact J6 (edwa d f) (by decide)
 obtain⟨l,L,o⟩:=E rfl;rcases w49 d am n.wf with⟨K,M,c,e⟩ | ⟨_,e⟩
 case inr=>exact J6 (edga d f e) (by decide)
 have ks:KS s K:=by
  refine⟨(l K c).1,(l K c).2,λF=>?_,λy v=>?_⟩
  ·rw[Eo] at c;rcases AU.1 c with rfl | c
   ·exact absurd n.k F
   ·exact o K c
  ·rw[Eo] at c;rcases AU.1 c with rfl | c
   ·exact o y (Ja v y (by rw[Eo];exact AV ..))
   ·exact o y (oP c y v)
 obtain⟨a,b,t,z,i,k⟩:=J K l L M ks;by_cases h:z=0
 case neg=>exact J6 (edd d f e i h) h
 have G:=k h;obtain⟨A,H,_,x⟩:=G.qa;obtain⟨B,N,_,m⟩:=G.qb;have D:=G.le;obtain⟨r,C,P,j⟩:=w58 (s:=s) (t:=t) (a:=A) (b:=B) am m am (by have:=G.ln;omega)
 rw[<-H,<-N] at j;by_cases q:C=0
 case neg=>exact J6 (edc d f e i h j q) (by decide)
 by_cases u:(r.length:Int) > 4096
 ·exact J6 (eda d f e i h j q u) (by decide)
 ·exact⟨a,b,t,0,edb d f e i h j q u,λ_=>G⟩
section
variable{s:List UInt8}{T Y:Tr}{X:PV}{p:List Int}(V:s.length<=400)(U:KI X p)(W:p.length<=20)(hk:bv s T)
include V U W hk
theorem w7(c:Bnd Y)(i:Int):Ed s 7 [.str s,T.pv,X,I i,Y.pv]:=by
 obtain⟨a,b,t,z,e,h⟩:=w18 V U W hk (g:=19) (cs:=[.vptr Y.pv,.vptr (I i),.vptr (.str s)]) λK _ _ _ ks=>yj (w19 V ks c i) rfl ⟨rfl,rfl⟩
 exact⟨a,b,t,z,ed7a U e,h⟩
theorem w9(i:Int):Ed s 9 [.str s,T.pv,X,I i]:=by
 obtain⟨a,b,t,z,e,h⟩:=w18 V U W hk (g:=31) (cs:=[.vptr (I i),.vptr (.str s)]) λK _ _ _ ks=>yj (w31 V ks i) rfl ⟨rfl,rfl⟩
 exact⟨a,b,t,z,ed9a U e,h⟩
theorem w12(c:Bnd Y):Ed s 12 [.str s,T.pv,X,Y.pv]:=by
 obtain⟨a,b,t,z,e,h⟩:=w18 V U W hk (g:=46) (cs:=[.vptr T.pv,.vptr X,.vptr Y.pv]) λK d g f ks=>yj (w46 V (Uk s am) ks U W d g hk.k c f) rfl ⟨rfl,rfl⟩
 exact⟨a,b,t,z,BVA U e,h⟩
end
def ZI{s:List UInt8}(o:s.length<=400){a b:Int}{t:List UInt8}(G:GdE s a b t):
  ∃e h g c,AQ (.ssl false true) [.str s,I a]=some [some (.str e)]/\E 13 [.str e,.int .i64 0] [] (.str h) []/\E 13 [.str s,I b] [] (.str g) []/\h.length+g.length<=CL/\e.length+t.length<=CL/\
   AQ (.ssl true false) [.str s,I b]=some [some (.str c)]/\(e++t).length+c.length<=CL/\E 13 [.str ((e++t)++c),.int .i64 0] [] (.str (h++g)) []/\¬a<0/\¬a>b/\¬b>(s.length:Int):=by
 obtain⟨⟨A,rfl,i,j⟩,⟨B,rfl,f,d⟩,l,k,p⟩:=G;have m:(s.take A).length<=400:=by rw[AA];omega
 have n:(s.drop B).length<=400:=by rw[Aw];omega
 have r:100000000<=CL:=by decide
 have q:=QR 0 (s.take A) none 0;have c2:=QR (B:Int) s none 0;refine⟨s.take A,_,_,s.drop B,SE s A j,w13 am,w13 am,am,am,SC s B d,by rw[Ae];omega,?_,am,am,am⟩
 have:=w13 (s:=s.take A++t++s.drop B) (fz:=0) (by simp only[Ae];omega)
 rw[Bq7 i f k d] at this;exact this
section
variable{s:List UInt8}{T Y:Tr}{X:PV}{p:List Int}(V:s.length<=400)(U:KI X p)(W:p.length<=20)(hk:bv s T)(hY:Bnd Y)(i:Int)
include V U W hk hY
theorem wW:LM a4 0 [(0,some (.str s)),(1,some X),(2,some (I i)),(7,some (.vptr Y.pv)),(9,some (.vptr T.pv)),(42,some (.int .i64 0))] [] (.exit 0) [] []:=by
 have x:=lw3a (s:=s) (T:=T) (Y:=Y) U (i:=i)
 have v:LM a4 0 [(0,some (.str s)),(1,some X),(2,some (I i)),(7,some (.vptr Y.pv)),(9,some (.vptr T.pv)),(42,some (.int .i64 2))] [] (.exit 0) [] []:=by
  obtain⟨a,b,t,z,e,h⟩:=w9 V U W hk i;by_cases f:z=0
  ·obtain⟨w,A,y,q,g,n,l,j,o,r,k,u,m,c,d⟩:=ZI V (h f);exact lw2d U e f m c d g n l j g o r k u rfl x
  ·exact lw2f U e f x
 have B:LM a4 0 [(0,some (.str s)),(1,some X),(2,some (I i)),(7,some (.vptr Y.pv)),(9,some (.vptr T.pv)),(42,some (.int .i64 1))] [] (.exit 0) [] []:=by
  obtain⟨a,b,t,z,e,h⟩:=w7 V U W hk hY i;by_cases f:z=0
  ·obtain⟨w,A,y,q,g,n,l,j,o,r,k,u,m,c,d⟩:=ZI V (h f);exact lw1d U e f m c d g n l j g o r k u rfl v
  ·exact lw1f U e f v
 obtain⟨a,b,t,z,e,h⟩:=w12 V U W hk hY;by_cases f:z=0
 ·obtain⟨w,A,y,q,g,n,l,j,o,r,k,u,m,c,d⟩:=ZI V (h f);exact lw0d U e f m c d g n l j g o r k u rfl B
 ·exact lw0f U e f B
end
def Wn(s:List UInt8){X:PV}{p:List Int}(a:KI X p)(w:p.length<1000000000)(i:Int){Y:Tr}(k:Y.wf)(y:Y.nds.length<=2000000):aZ a4 [.str s,X,I i,Y.pv] [] (.bool true) []:=by
 by_cases u:s.length<=4096
 case neg=>
  have e:=CqG (s:=s) am
  exact lwa (T:=.mk 0 [] 0 0 true []) a (.inl ⟨rfl,rfl⟩) e am
 obtain⟨T,D,d,q,h,g,n⟩:=AxH s u;by_cases c:(s.length:Int) > 400
 ·exact lwa a g h c
 by_cases f:(d.length:Int) > 0
 ·exact lwb a g h c f
 by_cases j:(p.length:Int) > 20
 ·exact lwc a g h c f j
 obtain⟨b,m,o⟩:=e4 k am
 cases b
 ·exact lwe a g h c f j m
 ·obtain⟨z,t⟩:=o rfl
  have r:Bnd Y:=⟨am,λx l=>⟨(TG Y k x l).1,by
   have v:=(TG Y k x l).2;have c:=Pt x;have f:=Sb x.kids
   omega,t x l⟩⟩
  exact lwd a g h c f j m (wW am a am n r i)
end Go.Abs.Z
