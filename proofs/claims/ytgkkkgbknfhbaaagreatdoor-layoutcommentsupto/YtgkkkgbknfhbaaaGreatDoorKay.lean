/- A part of the proof: W2 D10 D9 G6 G9 W5 G10 D3 D25. -/
import Derived.Test.YtgkkkgbknfhbaaaGreatDoorKax

set_option linter.all false
namespace Go.Abs.Z
noncomputable section
open PV
open Go.Proofs Go.RowKit
variable{c c2 x r p:UInt8}{s K w:List UInt8}{i m1 m2:Nat}{g:FuncId}{e:CE}{A:FF}{F:Sto}{z1:Int}{z:List PV}
def Aj1:Rn 199 a199:=rn
def AVX(p:(c.toNat:Int)=9):EvE 199 [.int .u8 (c.toNat:Int)] (.bool true):=
 rule Aj1 [sp 2 (Bz .u8 p)]
def AVW(p:(c.toNat:Int)≠9)(c2:(c.toNat:Int)=10):EvE 199 [.int .u8 (c.toNat:Int)] (.bool true):=
 rule Aj1 [sp 2 (Bb .u8 p),sq 2 (Bz .u8 c2)]
def AVV(p:(c.toNat:Int)≠9)(c2:(c.toNat:Int)≠10)(r:(c.toNat:Int)=13):EvE 199 [.int .u8 (c.toNat:Int)] (.bool true):=
 rule Aj1 [sp 2 (Bb .u8 p),sq 2 (Bb .u8 c2),sq 3 (Bz .u8 r)]
def AVU(p:(c.toNat:Int)≠9)(c2:(c.toNat:Int)≠10)(r:(c.toNat:Int)≠13):EvE 199 [.int .u8 (c.toNat:Int)] (.bool ((c.toNat:Int)==32)):=
 rule Aj1 [sp 2 (Bb .u8 p),sq 2 (Bb .u8 c2),sq 3 (Bb .u8 r)]
def BYF:Rn 202 a202:=rn
def AVT(p:(c.toNat:Int)>=97):EvE 202 [.int .u8 (c.toNat:Int)] (.bool (decide ((c.toNat:Int)<=122))):=
 rule BYF [sp 2 (Gi .u8 p)]
def AVS(p:¬(c.toNat:Int)>=97):EvE 202 [.int .u8 (c.toNat:Int)] (.bool false):=
 rule BYF [sp 2 (Im .u8 p)]
def BYK:Rn 204 a204:=rn
def AW8(p:(c.toNat:Int)>=48):EvE 204 [.int .u8 (c.toNat:Int)] (.bool (decide ((c.toNat:Int)<=57))):=
 rule BYK [sp 2 (Gi .u8 p)]
def AW7(p:¬(c.toNat:Int)>=48):EvE 204 [.int .u8 (c.toNat:Int)] (.bool false):=
 rule BYK [sp 2 (Im .u8 p)]
def R144:Rn 201 a201:=rn
def r144:EvE 201 [.int .u8 (c.toNat:Int)] (.bool ((c.toNat:Int) != 10)):=
 rule R144 []
def BqO:Rn 203 a203:=rn
def AVR(a:EvE 202 [.int .u8 (c.toNat:Int)] (.bool true)):EvE 203 [.int .u8 (c.toNat:Int)] (.bool true):=
 rule BqO [st 2 (oC a)]
section
variable(G:EvE 202 [.int .u8 (c.toNat:Int)] (.bool false))
include G
theorem AVQ(a:EvE 204 [.int .u8 (c.toNat:Int)] (.bool true)):EvE 203 [.int .u8 (c.toNat:Int)] (.bool true):=
 rule BqO [st 2 (oC G),sg 2 (oC a)]
theorem AVP(a:EvE 204 [.int .u8 (c.toNat:Int)] (.bool false)):EvE 203 [.int .u8 (c.toNat:Int)] (.bool ((c.toNat:Int)==95)):=
 rule BqO [st 2 (oC G),sg 2 (oC a)]
end
def R134:Rn 200 kL:=rn
def r134(a:LL kL 0 [(0,str s),(1,N i),(2,func g [] [])] [] (.exit 0) [(1,N m1)] []):EvE 200 [.str s,N i,.func g [] []] (N m1):=
 rule R134 [sl 1 [0,1,2] a]
def Zo(p:¬(m1:Int) < (s.length:Int)):LL kL 0 [(0,str s),(1,N m1),(2,func g [] [])] [] (.exit 0) [(1,N m1)] []:=
 Bw [1] [sp 3 (Bh .i64 p)]
def V7(p:(m1:Int) < (s.length:Int))(h:(s:List UInt8)[m1]?=some c2)(f:pur g=true)(a:EvE g [.int .u8 (c2.toNat:Int)] (.bool true))(d:m1<2000000000)(b:LL kL 0 [(0,str s),(1,N (m1+1)),(2,func g [] [])] [] e A F):LL kL 0 [(0,str s),(1,N m1),(2,func g [] [])] [] e A F:=
 BC [0,1,2] [sp 3 (AZ .i64 p),sq 4 (Bi _ m1 _ h),sg 0 (KE a f (by rfl) (by rfl) (by rfl) (by rfl) (by rfl):Bt pur run (.w .DC) [.func g [] [],.int .u8 (c2.toNat:Int)] [] [some (.bool true)] []),sp 3 (AO m1 1 d)] b
def Zn(p:(m1:Int) < (s.length:Int))(d:(s:List UInt8)[m1]?=some c2)(b:pur g=true)(a:EvE g [.int .u8 (c2.toNat:Int)] (.bool false)):LL kL 0 [(0,str s),(1,N m1),(2,func g [] [])] [] (.exit 0) [(1,N m1)] []:=
 Bw [1] [sp 3 (AZ .i64 p),sq 4 (Bi _ m1 _ d),sg 0 (KE a b (by rfl) (by rfl) (by rfl) (by rfl) (by rfl):Bt pur run (.w .DC) [.func g [] [],.int .u8 (c2.toNat:Int)] [] [some (.bool false)] [])]
def BYL:Rn 144 U2:=rn
def AWF(a:LL U2 0 [(0,str s),(1,N i)] [] (.exit 0) [(1,N m1)] []):EvE 144 [.str s,N i] (N m1):=
 rule BYL [sl 1 [0,1] a]
def AWE(a:LL U2 0 [(0,str s),(1,N i)] [] .ret [(4,N m1)] []):EvE 144 [.str s,N i] (N m1):=
 rule BYL [sl 1 [0,1] a]
def Ph(p:¬(m1:Int) < (s.length:Int)):LL U2 0 [(0,str s),(1,N m1)] [] (.exit 0) [(1,N m1)] []:=
 Bw [1] [sp 3 (Bh .i64 p)]
def Od(p:(m1:Int) < (s.length:Int))(f:(s:List UInt8)[m1]?=some c2)(a:EvE 199 [.int .u8 (c2.toNat:Int)] (.bool true))(d:m1<2000000000)(b:LL U2 0 [(0,str s),(1,N (m1+1))] [] e A F):LL U2 0 [(0,str s),(1,N m1)] [] e A F:=
 BC [0,1] [sp 3 (AZ .i64 p),sp 3 (Bi _ m1 _ f),st 0 (oC a),sp 3 (AO m1 1 d)] b
def Oc(p:(m1:Int) < (s.length:Int))(a:(s:List UInt8)[m1]?=some c2)(b:EvE 199 [.int .u8 (c2.toNat:Int)] (.bool false))(r:(c2.toNat:Int)=35)(d:EvE 200 [.str s,N m1,.func 201 [] []] (N m2))(f:LL U2 0 [(0,str s),(1,N m2)] [] e A F):LL U2 0 [(0,str s),(1,N m1)] [] e A F:=
 BC [0,1] [sp 3 (AZ .i64 p),sp 3 (Bi _ m1 _ a),st 0 (oC b),sp 4 (Bi _ m1 _ a),sp 0 (Bz .u8 r),st 4 (oC d)] f
def Zw(p:(m1:Int) < (s.length:Int))(a:(s:List UInt8)[m1]?=some c2)(b:EvE 199 [.int .u8 (c2.toNat:Int)] (.bool false))(r:(c2.toNat:Int)≠35):LL U2 0 [(0,str s),(1,N m1)] [] .ret [(4,N m1)] []:=
 Bw [4] [sp 3 (AZ .i64 p),sp 3 (Bi _ m1 _ a),st 0 (oC b),sp 4 (Bi _ m1 _ a),sp 0 (Bb .u8 r)]
def Wq:Rn 206 a206:=rn
section
variable(D:i<2000000000)
include D
theorem AVO(p:¬((i+1:Nat):Int) < (s.length:Int))(a:LL a206 0 [(0,str s),(1,N i),(44,slice false 1 (Hr.map by8)),(45,I 18),(46,I 0)] [] (.exit 0) [(0,str s),(1,N i),(44,slice false 1 (Hr.map by8))] []):EvE 206 [.str s,N i] (I 0):=
 rule Wq [sp 2 (AO i 1 D),sp 2 (Bh .i64 p),sl 36 [0,1,44,45,46] a]
theorem AVN(p:¬((i+1:Nat):Int) < (s.length:Int))(a:LL a206 0 [(0,str s),(1,N i),(44,slice false 1 (Hr.map by8)),(45,I 18),(46,I 0)] [] .ret [(4,I 1)] []):EvE 206 [.str s,N i] (I 1):=
 rule Wq [sp 2 (AO i 1 D),sp 2 (Bh .i64 p),sl 36 [0,1,44,45,46] a]
theorem AVM(p:((i+1:Nat):Int) < (s.length:Int))(a:(s:List UInt8)[i+1]?=some c2)(r:(c2.toNat:Int)=61)(d:(s:List UInt8)[i]?=some x)(b:(x.toNat:Int)=61):EvE 206 [.str s,N i] (I 2):=
 rule Wq [sp 2 (AO i 1 D),sp 2 (AZ .i64 p),sq 3 (AO i 1 D),sq 0 (Bi _ (i+1) _ a),sq 0 (Bz .u8 r),sq 4 (Bi _ i _ d),sq 0 (Bz .u8 b)]
theorem AVL(p:((i+1:Nat):Int) < (s.length:Int))(a:(s:List UInt8)[i+1]?=some c2)(r:(c2.toNat:Int)≠61)(b:LL a206 0 [(0,str s),(1,N i),(44,slice false 1 (Hr.map by8)),(45,I 18),(46,I 0)] [] (.exit 0) [(0,str s),(1,N i),(44,slice false 1 (Hr.map by8))] []):EvE 206 [.str s,N i] (I 0):=
 rule Wq [sp 2 (AO i 1 D),sp 2 (AZ .i64 p),sq 3 (AO i 1 D),sq 0 (Bi _ (i+1) _ a),sq 0 (Bb .u8 r),sl 30 [0,1,44,45,46] b]
theorem AVK(p:((i+1:Nat):Int) < (s.length:Int))(a:(s:List UInt8)[i+1]?=some c2)(r:(c2.toNat:Int)≠61)(b:LL a206 0 [(0,str s),(1,N i),(44,slice false 1 (Hr.map by8)),(45,I 18),(46,I 0)] [] .ret [(4,I 1)] []):EvE 206 [.str s,N i] (I 1):=
 rule Wq [sp 2 (AO i 1 D),sp 2 (AZ .i64 p),sq 3 (AO i 1 D),sq 0 (Bi _ (i+1) _ a),sq 0 (Bb .u8 r),sl 30 [0,1,44,45,46] b]
theorem AVJ(p:((i+1:Nat):Int) < (s.length:Int))(b:(s:List UInt8)[i+1]?=some c2)(r:(c2.toNat:Int)=61)(a:(s:List UInt8)[i]?=some x)(d:(x.toNat:Int)≠61)(f:(x.toNat:Int)=33):EvE 206 [.str s,N i] (I 2):=
 rule Wq [sp 2 (AO i 1 D),sp 2 (AZ .i64 p),sq 3 (AO i 1 D),sq 0 (Bi _ (i+1) _ b),sq 0 (Bz .u8 r),sq 4 (Bi _ i _ a),sq 0 (Bb .u8 d),sq 3 (Bi _ i _ a),sq 0 (Bz .u8 f)]
theorem AVI(p:((i+1:Nat):Int) < (s.length:Int))(b:(s:List UInt8)[i+1]?=some c2)(r:(c2.toNat:Int)=61)(a:(s:List UInt8)[i]?=some x)(d:(x.toNat:Int)≠61)(f:(x.toNat:Int)≠33)(h:(x.toNat:Int)=60):EvE 206 [.str s,N i] (I 2):=
 rule Wq [sp 2 (AO i 1 D),sp 2 (AZ .i64 p),sq 3 (AO i 1 D),sq 0 (Bi _ (i+1) _ b),sq 0 (Bz .u8 r),sq 4 (Bi _ i _ a),sq 0 (Bb .u8 d),sq 3 (Bi _ i _ a),sq 0 (Bb .u8 f),sq 4 (Bi _ i _ a),sq 0 (Bz .u8 h)]
theorem AVH(p:((i+1:Nat):Int) < (s.length:Int))(b:(s:List UInt8)[i+1]?=some c2)(r:(c2.toNat:Int)=61)(a:(s:List UInt8)[i]?=some x)(d:(x.toNat:Int)≠61)(h:(x.toNat:Int)≠33)(j:(x.toNat:Int)≠60)(f:(x.toNat:Int)=62):EvE 206 [.str s,N i] (I 2):=
 rule Wq [sp 2 (AO i 1 D),sp 2 (AZ .i64 p),sq 3 (AO i 1 D),sq 0 (Bi _ (i+1) _ b),sq 0 (Bz .u8 r),sq 4 (Bi _ i _ a),sq 0 (Bb .u8 d),sq 3 (Bi _ i _ a),sq 0 (Bb .u8 h),sq 4 (Bi _ i _ a),sq 0 (Bb .u8 j),sq 4 (Bi _ i _ a),sq 0 (Bz .u8 f)]
theorem AVG(p:((i+1:Nat):Int) < (s.length:Int))(b:(s:List UInt8)[i+1]?=some c2)(r:(c2.toNat:Int)=61)(a:(s:List UInt8)[i]?=some x)(d:(x.toNat:Int)≠61)(j:(x.toNat:Int)≠33)(k:(x.toNat:Int)≠60)(h:(x.toNat:Int)≠62)(f:LL a206 0 [(0,str s),(1,N i),(44,slice false 1 (Hr.map by8)),(45,I 18),(46,I 0)] [] (.exit 0) [(0,str s),(1,N i),(44,slice false 1 (Hr.map by8))] []):EvE 206 [.str s,N i] (I 0):=
 rule Wq [sp 2 (AO i 1 D),sp 2 (AZ .i64 p),sq 3 (AO i 1 D),sq 0 (Bi _ (i+1) _ b),sq 0 (Bz .u8 r),sq 4 (Bi _ i _ a),sq 0 (Bb .u8 d),sq 3 (Bi _ i _ a),sq 0 (Bb .u8 j),sq 4 (Bi _ i _ a),sq 0 (Bb .u8 k),sq 4 (Bi _ i _ a),sq 0 (Bb .u8 h),sl 7 [0,1,44,45,46] f]
theorem AxB(p:((i+1:Nat):Int) < (s.length:Int))(b:(s:List UInt8)[i+1]?=some c2)(r:(c2.toNat:Int)=61)(a:(s:List UInt8)[i]?=some x)(d:(x.toNat:Int)≠61)(j:(x.toNat:Int)≠33)(k:(x.toNat:Int)≠60)(h:(x.toNat:Int)≠62)(f:LL a206 0 [(0,str s),(1,N i),(44,slice false 1 (Hr.map by8)),(45,I 18),(46,I 0)] [] .ret [(4,I 1)] []):EvE 206 [.str s,N i] (I 1):=
 rule Wq [sp 2 (AO i 1 D),sp 2 (AZ .i64 p),sq 3 (AO i 1 D),sq 0 (Bi _ (i+1) _ b),sq 0 (Bz .u8 r),sq 4 (Bi _ i _ a),sq 0 (Bb .u8 d),sq 3 (Bi _ i _ a),sq 0 (Bb .u8 j),sq 4 (Bi _ i _ a),sq 0 (Bb .u8 k),sq 4 (Bi _ i _ a),sq 0 (Bb .u8 h),sl 7 [0,1,44,45,46] f]
end
def Zh(p:¬(m1:Int) < 18):LL a206 0 [(0,str s),(1,N i),(44,slice false 1 (Hr.map by8)),(45,I 18),(46,N m1)] [] (.exit 0) [(0,str s),(1,N i),(44,slice false 1 (Hr.map by8))] []:=
 Bw [0,1,44] [sp 0 (Bh .i64 p)]
def Zg(p:(m1:Int) < 18)(a:Hr[m1]?=some c2)(b:(s:List UInt8)[i]?=some r)(x:(r.toNat:Int)=(c2.toNat:Int)):LL a206 0 [(0,str s),(1,N i),(44,slice false 1 (Hr.map by8)),(45,I 18),(46,N m1)] [] .ret [(4,I 1)] []:=
 Bw [4] [sp 0 (AZ .i64 p),sp 1 (au (o:=false) (s:=1) m1 a),sp 4 (Bi _ i _ b),sp 1 (Bz .u8 x)]
def Oa(p:(m1:Int) < 18)(a:Hr[m1]?=some c2)(d:(s:List UInt8)[i]?=some r)(x:(r.toNat:Int)≠(c2.toNat:Int))(f:m1<2000000000)(b:LL a206 0 [(0,str s),(1,N i),(44,slice false 1 (Hr.map by8)),(45,I 18),(46,N (m1+1))] [] e A F):LL a206 0 [(0,str s),(1,N i),(44,slice false 1 (Hr.map by8)),(45,I 18),(46,N m1)] [] e A F:=
 BC [0,1,44,45,46] [sp 0 (AZ .i64 p),sp 1 (au (o:=false) (s:=1) m1 a),sp 4 (Bi _ i _ d),sp 1 (Bb .u8 x),sp 1 (AO m1 1 f)] b
def yZ:Rn 145 a145:=rn
section
variable(H:(s:List UInt8)[i]?=some p)(G:EvE 202 [.int .u8 (p.toNat:Int)] (.bool true))(J:EvE 200 [.str s,N i,.func 203 [] []] (N m1))(O:BM (.ssl true true) [.str s,N i,N m1] (.str K))
include H G J O
theorem AWD(a:EvE 205 [.str K] (.bool true)):EvE 145 [.str s,N i] (.tuple [I 1,N m1]):=
 rule yZ [sp 4 (Bi _ i _ H),st 0 (oC G),st 4 (oC J),sp 4 O,st 0 (oC a)]
theorem AWC(a:EvE 205 [.str K] (.bool false)):EvE 145 [.str s,N i] (.tuple [I 0,N m1]):=
 rule yZ [sp 4 (Bi _ i _ H),st 0 (oC G),st 4 (oC J),sp 4 O,st 0 (oC a)]
end
section
variable(H:(s:List UInt8)[i]?=some p)(G:EvE 202 [.int .u8 (p.toNat:Int)] (.bool false))
include H G
def rO:List Stp:=[sp 4 (Bi _ i _ H),st 0 (oC G),sp 4 (Bi _ i _ H)]
theorem AWB(a:EvE 204 [.int .u8 (p.toNat:Int)] (.bool true))(b:EvE 200 [.str s,N i,.func 204 [] []] (N m1)):EvE 145 [.str s,N i] (.tuple [I 2,N m1]):=
 rule yZ (rO H G++[st 0 (oC a),st 4 (oC b)])
section
variable(J:EvE 204 [.int .u8 (p.toNat:Int)] (.bool false))(M:EvE 206 [.str s,N i] (N m1))
include J M
theorem AWA(c2:(m1:Int) > 0)(a:i<2000000000)(b:m1<2000000000):EvE 145 [.str s,N i] (.tuple [I 3,N (i+m1)]):=
 rule yZ (rO H G++[st 0 (oC J),st 4 (oC M),sp 2 (CF .i64 c2),sp 3 (AO i m1 a b)])
theorem AW9(c2:¬(m1:Int) > 0)(a:i<2000000000)(b:LL a145 0 [(0,str s),(8,N (i+1))] [] (.exit 1) [(0,str s),(8,N m2)] []):EvE 145 [.str s,N i] (.tuple [I 4,N m2]):=
 rule yZ (rO H G++[st 0 (oC J),st 4 (oC M),sp 2 (Cz .i64 c2),sp 2 (AO i 1 a),sl 1 [0,8] b])
end
end
def Zv(p:¬(m1:Int) < (s.length:Int)):LL a145 0 [(0,str s),(8,N m1)] [] (.exit 1) [(0,str s),(8,N m1)] []:=
 Bw [0,8] [sp 3 (Bh .i64 p)]
def Zu(p:(m1:Int) < (s.length:Int))(b:(s:List UInt8)[m1]?=some c2)(a:EvE 199 [.int .u8 (c2.toNat:Int)] (.bool true)):LL a145 0 [(0,str s),(8,N m1)] [] (.exit 1) [(0,str s),(8,N m1)] []:=
 Bw [0,8] [sp 3 (AZ .i64 p),sq 3 (Bi _ m1 _ b),sg 0 (oC a)]
def Zt(p:(m1:Int) < (s.length:Int))(a:(s:List UInt8)[m1]?=some c2)(b:EvE 199 [.int .u8 (c2.toNat:Int)] (.bool false))(r:(c2.toNat:Int)=35):LL a145 0 [(0,str s),(8,N m1)] [] (.exit 1) [(0,str s),(8,N m1)] []:=
 Bw [0,8] [sp 3 (AZ .i64 p),sq 3 (Bi _ m1 _ a),sg 0 (oC b),sq 5 (Bi _ m1 _ a),sq 0 (Dr .u8 r)]
def Zr(p:(m1:Int) < (s.length:Int))(a:(s:List UInt8)[m1]?=some c2)(b:EvE 199 [.int .u8 (c2.toNat:Int)] (.bool false))(r:(c2.toNat:Int)≠35)(d:EvE 202 [.int .u8 (c2.toNat:Int)] (.bool true)):LL a145 0 [(0,str s),(8,N m1)] [] (.exit 1) [(0,str s),(8,N m1)] []:=
 Bw [0,8] [sp 3 (AZ .i64 p),sq 3 (Bi _ m1 _ a),sg 0 (oC b),sq 5 (Bi _ m1 _ a),sq 0 (C8 .u8 r),sq 4 (Bi _ m1 _ a),sg 0 (oC d)]
def Zq(p:(m1:Int) < (s.length:Int))(a:(s:List UInt8)[m1]?=some c2)(b:EvE 199 [.int .u8 (c2.toNat:Int)] (.bool false))(r:(c2.toNat:Int)≠35)(d:EvE 202 [.int .u8 (c2.toNat:Int)] (.bool false))(f:EvE 204 [.int .u8 (c2.toNat:Int)] (.bool true)):LL a145 0 [(0,str s),(8,N m1)] [] (.exit 1) [(0,str s),(8,N m1)] []:=
 Bw [0,8] [sp 3 (AZ .i64 p),sq 3 (Bi _ m1 _ a),sg 0 (oC b),sq 5 (Bi _ m1 _ a),sq 0 (C8 .u8 r),sq 4 (Bi _ m1 _ a),sg 0 (oC d),sq 5 (Bi _ m1 _ a),sg 0 (oC f)]
def V8(p:(m1:Int) < (s.length:Int))(a:(s:List UInt8)[m1]?=some c2)(b:EvE 199 [.int .u8 (c2.toNat:Int)] (.bool false))(r:(c2.toNat:Int)≠35)(j:EvE 202 [.int .u8 (c2.toNat:Int)] (.bool false))(k:EvE 204 [.int .u8 (c2.toNat:Int)] (.bool false))(d:EvE 206 [.str s,N m1] (N m2))(x:(m2:Int)=0)(h:m1<2000000000)(f:LL a145 0 [(0,str s),(8,N (m1+1))] [] e A F):LL a145 0 [(0,str s),(8,N m1)] [] e A F:=
 BC [0,8] [sp 3 (AZ .i64 p),sq 3 (Bi _ m1 _ a),sg 0 (oC b),sq 5 (Bi _ m1 _ a),sq 0 (C8 .u8 r),sq 4 (Bi _ m1 _ a),sg 0 (oC j),sq 5 (Bi _ m1 _ a),sg 0 (oC k),sg 5 (oC d),sq 0 (Bz .i64 x),sp 3 (AO m1 1 h)] f
def Zp(p:(m1:Int) < (s.length:Int))(a:(s:List UInt8)[m1]?=some c2)(b:EvE 199 [.int .u8 (c2.toNat:Int)] (.bool false))(r:(c2.toNat:Int)≠35)(f:EvE 202 [.int .u8 (c2.toNat:Int)] (.bool false))(h:EvE 204 [.int .u8 (c2.toNat:Int)] (.bool false))(d:EvE 206 [.str s,N m1] (N m2))(x:(m2:Int)≠0):LL a145 0 [(0,str s),(8,N m1)] [] (.exit 1) [(0,str s),(8,N m1)] []:=
 Bw [0,8] [sp 3 (AZ .i64 p),sq 3 (Bi _ m1 _ a),sg 0 (oC b),sq 5 (Bi _ m1 _ a),sq 0 (C8 .u8 r),sq 4 (Bi _ m1 _ a),sg 0 (oC f),sq 5 (Bi _ m1 _ a),sg 0 (oC h),sg 5 (oC d),sq 0 (Bb .i64 x)]
def R147:Rn 205 a205:=rn
def r147{a:Bool}(b:BM (.look (.bool false) false false) [mO,.str w] (.bool a)):EvE 205 [.str w] (.bool a):=
 rule R147 [st 1 (oC e153),sp 1 b]
def R98:Rn 248 RP:=rn
def Bk1(p:w=[]):EvE 248 [.str w] (.tuple [I 0,.bool false]):=
 rule R98 [sp 3 (Jb p)]
def Bk0(p:w≠[])(c2:(w.length:Int) > 9):EvE 248 [.str w] (.tuple [I 0,.bool false]):=
 rule R98 [sp 3 (II p),sq 3 (CF .i64 c2)]
def BjZ(p:w≠[])(c2:¬(w.length:Int) > 9)(a:EvE 200 [.str w,I 0,.func 204 [] []] (N m1))(r:(m1:Int) < (w.length:Int)):EvE 248 [.str w] (.tuple [I 0,.bool false]):=
 rule R98 [sp 3 (II p),sq 3 (Cz .i64 c2),sg 3 (oC a),sq 2 (AZ .i64 r)]
def BjY(p:w≠[])(c2:¬(w.length:Int) > 9)(a:EvE 200 [.str w,I 0,.func 204 [] []] (N m1))(r:¬(m1:Int) < (w.length:Int))(b:LL RP 0 [(4,I 0),(22,slice false 1 (w.map by8)),(23,N w.length),(24,I 0)] [] (.exit 0) [(4,I z1),(22,slice false 1 (w.map by8))] []):EvE 248 [.str w] (.tuple [I z1,.bool true]):=
 rule R98 [sp 3 (II p),sq 3 (Cz .i64 c2),sg 3 (oC a),sq 2 (Bh .i64 r),sp 5 (AxZ false 1 w),sl 1 [4,22,23,24] b]
def Yg{d:Int}{a:Int}{f:Int}{b:Int}(p:(m1:Int) < (w.length:Int))(h:w[m1]?=some c2)(m:IntKind.i64.wrap (10 * z1)=d)(o:IntKind.u8.wrap ((c2.toNat:Int) - 48)=a)(n:IntKind.i64.wrap a=f)(l:IntKind.i64.wrap (d+f)=b)(k:m1<2000000000)(j:LL RP 0 [(4,I b),(22,slice false 1 (w.map by8)),(23,N w.length),(24,N (m1+1))] [] e A F):LL RP 0 [(4,I z1),(22,slice false 1 (w.map by8)),(23,N w.length),(24,N m1)] [] e A F:=
 BC [4,22,23,24] [sp 0 (AZ .i64 p),sp 1 (au (o:=false) (s:=1) m1 h),sp 3 (jL m),sp 1 (XZ o),sp 0 (aF (k:=.u8) n),sp 0 (kH l),sp 1 (AO m1 1 k)] j
def dm(p:¬(m1:Int) < (w.length:Int)):LL RP 0 [(4,I z1),(22,slice false 1 (w.map by8)),(23,N w.length),(24,N m1)] [] (.exit 0) [(4,I z1),(22,slice false 1 (w.map by8))] []:=
 Bw [4,22] [sp 0 (Bh .i64 p)]
def R97:Rn 94 a94:=rn
def AkH(p:(s.length:Int) > 4096):EvE 94 [.str s] (.tuple [.nils,I 8]):=
 rule R97 [sp 4 (CF .i64 p)]
def Bk3(p:¬(s.length:Int) > 4096)(a:LL a94 0 [(0,str s),(4,nils),(5,I 0)] [] .ret [(2,BI 4 z),(3,I 0)] []):EvE 94 [.str s] (.tuple [Ci 4 z,I 0]):=
 Br R97 [sp 4 (Cz .i64 p),sl 3 [0,4,5] a] (by simp[Et,CX]:(FE [(2,BI 4 z),(3,I 0)] [(2,none),(3,none)]).bind CX=some (.tuple [Ci 4 z,I 0]))
def dn(a:EvE 144 [.str s,N m1] (N m2))(p:(m2:Int)=(s.length:Int))(b:z.length+1<=Bo):LL a94 0 [(0,str s),(4,BI 4 z),(5,N m1)] [] .ret [(2,BI 4 (z++[.agg [I 5,N m1,N m2,N m2]])),(3,I 0)] []:=
 Bw [2,3] [st 2 (oC a),sp 4 (Bz .i64 p),sp 1 (JD 4 z),st 5 (aQ 4 (.agg [I 5,N m1,N m2,N m2]) [] b),sp 0 (JD 4 (z++[.agg [I 5,N m1,N m2,N m2]]))]
def Yh{m3:Nat}{a:Nat}(b:EvE 144 [.str s,N m1] (N m2))(p:(m2:Int)≠(s.length:Int))(h:EvE 145 [.str s,N m2] (.tuple [N m3,N a]))(f:z.length+1<=Bo)(d:LL a94 0 [(0,str s),(4,BI 4 (z++[.agg [N m3,N m1,N m2,N a]])),(5,N a)] [] e A F):LL a94 0 [(0,str s),(4,BI 4 z),(5,N m1)] [] e A F:=
 BC [0,4,5] [st 2 (oC b),sp 4 (Bb .i64 p),st 3 (oC h),sp 5 (JD 4 z),st 6 (aQ 4 (.agg [N m3,N m1,N m2,N a]) [] f),sp 0 (JD 4 (z++[.agg [N m3,N m1,N m2,N a]]))] d
end
structure WFt(s:List UInt8)(t:Tk):Prop where
 ord:t.a<=t.e/\t.e<=s.length/\t.f<=t.a
 k0:t.k=0->leB ((wd s t).headD 0)=true/\kwL.contains (wd s t)=false
 k1:t.k=1->kwL.contains (wd s t)=true
 k2:t.k=2->diB ((wd s t).headD 0)=true/\(wd s t).all diB=true
 k3:t.k=3->leB ((wd s t).headD 0)=false/\diB ((wd s t).headD 0)=false/\wd s t≠[]
 k5:t.k=5->wd s t=[]
def qI{s r:List UInt8}{k f a n:Nat}(h:s.drop a=r):wd s ⟨k,f,a,a+n⟩=r.take n:=by
 simp only[wd];rw[h,show a+n - a=n by omega]
def Qr(p:UInt8->Bool)(l:List UInt8):(l.take (Dc p l)).all p=true:=by
 induction l with
 |nil=>rfl
 |cons c l a=>
  unfold Dc at *;rw[BS];cases h:p c with
  |true=>simp only[if_true,Ah,DU,Dv,h,Da];exact a
  |false=>rfl
def RS(l:List UInt8):Ib l<=l.length:=by
 cases l with
 |nil=>simp[Ib]
 |cons a l=>
  rw[Ib];split
  ·rename_i h;cases l with
   |nil=>simp at h
   |cons=>simp
  ·split<;>simp
def J8(p:UInt8->Bool)(l:List UInt8):Dc p l<=l.length:=by
 unfold Dc;exact(List.takeWhile_sublist p).length_le
def iE:∀l:List UInt8,wrN l<=l.length
 |[]=>Ai _
 |c::l=>by have:=iE l;rw[wrN];split<;>simp;omega
def Mi:∀(b:Bool) (l:List UInt8),skN b l<=l.length
 |b,[]=>by cases b<;>simp[skN]
 |true,c::l=>by
  have d:=Mi false l;have e:=Mi true l;simp only[skN,Ah];split<;>omega
 |false,c::l=>by
  have d:=Mi false l;have e:=Mi true l;simp only[skN,Ah];split
  ·omega
  ·split<;>omega
def tJ{s r:List UInt8}{f a:Nat}(t:s.drop a=r)(w:r≠[])(o:f<=a):WFt s ⟨(Ia r).1,f,a,a+(Ia r).2⟩/\0<(Ia r).2/\a+(Ia r).2<=s.length/\(Ia r).1<5:=by
 have e:r.length=s.length - a:=by rw[<-t,Aw]
 cases r with
 |nil=>exact absurd rfl w
 |cons c l=>
  have y:0<s.length - a:=by rw[<-e];simp
  have x:∀n,0<n->((c::l).take n).headD 0=c:=λn z=>by
   cases n with
   |zero=>omega
   |succ n=>rfl
  have p:∀n,0<n->(c::l).take n≠[]:=λn z=>by
   cases n with
   |zero=>omega
   |succ n=>simp
  unfold Ia;simp only[List.headD_cons,List.tail_cons];by_cases m:leB c=true
  ·simp only[m,if_true];have v:woB c=true:=by simp[woB,m]
   have k:0<Dc woB (c::l):=by simp[Dc,v]
   have j:=J8 woB (c::l);refine⟨?_,k,am,by split<;>omega⟩
   have d:wd s ⟨if kwL.contains ((c::l).take (Dc woB (c::l)))=true then 1 else 0,f,a,a+Dc woB (c::l)⟩=(c::l).take (Dc woB (c::l)):=qI t
   cases q:kwL.contains ((c::l).take (Dc woB (c::l))) with
   |true=>
    rw[q] at d;exact⟨⟨by simp,by simp only;omega,o⟩,λh=>by simp at h,λ_=>by rw[d];exact q,λh=>by simp at h,λh=>by simp at h,λh=>by simp at h⟩
   |false=>
    rw[q] at d;exact⟨⟨by simp,by simp only;omega,o⟩,λ_=>by rw[d,x _ k];exact⟨m,q⟩,λh=>by simp at h,λh=>by simp at h,λh=>by simp at h,λh=>by simp at h⟩
  ·by_cases b:diB c=true
   ·simp only[m,b,if_true,Bool.false_eq_true,if_false];have k:0<Dc diB (c::l):=by simp[Dc,b]
    have j:=J8 diB (c::l);have d:wd s ⟨2,f,a,a+Dc diB (c::l)⟩=(c::l).take (Dc diB (c::l)):=qI t;exact⟨⟨⟨by simp,by simp only;omega,o⟩,λh=>by simp at h,λh=>by simp at h,λ_=>by rw[d,x _ k];exact⟨b,Qr _ _⟩,λh=>by simp at h,λh=>by simp at h⟩,k,am,am⟩
   ·have i:leB c=false:=by simpa using m
    have g:diB c=false:=by simpa using b
    by_cases u:0<Ib (c::l)
    ·simp only[i,g,u,if_true,Bool.false_eq_true,if_false];have j:=RS (c::l);have d:wd s ⟨3,f,a,a+Ib (c::l)⟩=(c::l).take (Ib (c::l)):=qI t;exact⟨⟨⟨by simp,by simp only;omega,o⟩,λh=>by simp at h,λh=>by simp at h,λh=>by simp at h,λ_=>by rw[d,x _ u];exact⟨i,g,p _ u⟩,λh=>by simp at h⟩,trivial,am,am⟩
    ·simp only[i,g,u,Bool.false_eq_true,if_false];have j:=iE l;simp only[Ah] at e;exact⟨⟨⟨by simp,by simp only;omega,o⟩,λh=>by simp at h,λh=>by simp at h,λh=>by simp at h,λh=>by simp at h,λh=>by simp at h⟩,am,am,am⟩
structure yN(s:List UInt8)(f:Nat)(l:List Tk):Prop where
 init:∃l0 g,l=l0++[⟨5,g,s.length,s.length⟩]/\∀t∈l0,t.k<5
 wf:∀t∈l,WFt s t/\f<=t.a
 ord:l.Pairwise λt u=>t.a<u.a/\t.e<=u.a
def LQ(s:List UInt8):∀(n f:Nat),f<=s.length->s.length - f<n->yN s f (JK n (s.drop f) f)
 |0,f,_,h=>am
 |n+1,f,i,h=>by
  have m:=Mi false (s.drop f);rw[Aw] at m;rw[JK];by_cases c:(s.drop f).drop (skN false (s.drop f))=[]
  ·simp only[c,if_true];rw[BZ,AY] at c;have e:f+skN false (s.drop f)=s.length:=am
   rw[e];refine⟨⟨[],f,rfl,λt h=>by cases h⟩,λt a=>?_,by simp⟩
   rw[BR] at a;subst a;exact⟨⟨⟨by simp,by simp,i⟩,λh=>by simp at h,λh=>by simp at h,λh=>by simp at h,λh=>by simp at h,λ_=>by simp[wd]⟩,i⟩
  ·simp only[c,if_false];rw[BZ] at c;simp only[BZ];obtain⟨l,v,r,q⟩:=tJ (s:=s) (f:=f) (a:=f+skN false (s.drop f)) rfl c am
   have p:f+skN false (s.drop f) < s.length:=am
   obtain⟨⟨o,g,e,hi⟩,d,k⟩:=LQ s n (f+skN false (s.drop f)+(Ia (s.drop (f+skN false (s.drop f)))).2) am am
   refine⟨⟨_::o,g,by rw[e];rfl,λt a=>?_⟩,λt a=>?_,?_⟩
   ·rcases AU.1 a with rfl | a
    ·exact q
    ·exact hi t a
   ·rcases AU.1 a with rfl | a
    ·exact⟨l,by simp⟩
    ·exact⟨(d t a).1,by have:=(d t a).2;omega⟩
   ·rw[CB];exact⟨λu j=>by have:=(d u j).2;simp only;omega,k⟩
def good(l:List Tk):List Tk:=l.filter λt=>t.k != 4
def yN.good{s:List UInt8}{f:Nat}{l:List Tk}(h:yN s f l):yN s f (good l):=by
 obtain⟨⟨c,g,e,hi⟩,d,b⟩:=h;refine⟨⟨Z.good c,g,by rw[e];simp[Z.good],λt a=>hi t (Dj.1 a).1⟩,λt a=>d t (Dj.1 a).1,b.filter _⟩
def uq:(spW.all λx=>(!leB (x.headD 0)||kwL.contains x)&&!diB (x.headD 0))=true:=by decide
def yu:(aL.all λx=>leB (x.headD 0)&&spW.contains x)=true:=by decide
def zo{s:List UInt8}{l:List Tk}(h:yN s 0 l)(J:s.length<1000000)(Q:l.length<=1000000)(E:∀t∈l,t.k≠4):CG s l (l.length - 1):=by
 obtain⟨⟨z,g,e,hi⟩,v,G⟩:=h;have q:l.length=z.length+1:=by rw[e];simp
 have o:l[l.length - 1]?=some ⟨5,g,s.length,s.length⟩:=by rw[q,e];simp
 have d:∀{k:Nat} {t:Tk},l[k]?=some t->t∈l:=λh=>Am h
 have p:∀(t:Tk),t∈l->spW.contains (wd s t)=true->t.k=1\/t.k=3:=by
  intro t c f;have m:=Au.1 uq _ (CR.1 f);simp only[Aj,Dk,Ik] at m;have w:=(v t c).1
  have P:t.k<=5:=by
   rw[e] at c;rcases Bv.1 c with y | y
   ·have:=hi t y;omega
   ·rw[BR] at y;subst y;simp
  have N:=E t c
  have M:t.k≠0:=λr=>by
   obtain⟨a,b⟩:=w.k0 r;rcases m.1 with x | x
   ·rw[a] at x;cases x
   ·rw[b] at x;cases x
  have c2:t.k≠2:=λr=>by
   obtain⟨a,b⟩:=w.k2 r;rw[a] at m;exact absurd m.2 (by simp)
  have O:t.k≠5:=λr=>by
   rw[w.k5 r] at f;exact absurd f (by decide)
  omega
 refine⟨am,am,J,⟨_,o,rfl,rfl⟩,λk t c=>⟨(v t (d c)).1.ord.1,(v t (d c)).1.ord.2.1⟩,λi j t u c I D=>?_,λk t c H=>?_,λk t c f=>p t (d c) f,λk t c F=>?_,λk t c K=>?_⟩
 ·have n:=Ad.1 c;have C:=Ad.1 I;have:=List.pairwise_iff_getElem.1 G i j n.1 C.1 D;rw[n.2,C.2] at this;exact this
 ·have L:=d c
  have:t∈z:=by
   have B:k<z.length:=am
   rw[e,AR B] at c;exact Am c
  have n:=hi t this;have C:=E t L;omega
 ·rcases p t (d c) (by rw[F];decide) with n | A
  ·have:=(v t (d c)).1.k1 n;rw[F] at this;exact absurd this (by decide)
  ·exact A
 ·have m:=Au.1 yu _ (CR.1 K);simp only[Aj] at m;rcases p t (d c) m.2 with n | A
  ·exact n
  ·have:=((v t (d c)).1.k3 A).1;rw[m.1] at this;cases this
def IR:∀(n:Nat) (l:List UInt8) (f:Nat),(JK n l f).length<=n
 |0,_,_=>Ai _
 |n+1,l,f=>by
  simp only[JK];split
  ·simp
  ·have:=IR n (((l.drop (skN false l))).drop (Ia (l.drop (skN false l))).2) (f+skN false l+(Ia (l.drop (skN false l))).2);simp only[Ah];omega
def BL(s:List UInt8):List Tk:=good (Gl s)
def J7(s:List UInt8)(c:s.length<999999:=by omega):CG s (BL s) ((BL s).length - 1):=by
 have h:=(LQ s (s.length+1) 0 am am).good
 have b:(Gl s).length<=s.length+1:=IR (s.length+1) s 0;refine zo h am ?_ (λt a=>?_)
 ·exact Bf (Ew _ _) am
 ·have:=(Dj.1 a).2;simpa using this
end Go.Abs.Z

namespace Go.Abs.Z
open Go.Proofs Go.RowKit
def u8i(c d:UInt8):(((c.toNat:Nat):Int)=((d.toNat:Nat):Int))↔c=d:=by
 refine⟨λh=>UInt8.toNat_inj.1 am,λh=>by rw[h]⟩
def e143(c:UInt8):E 199 [.int .u8 ((c.toNat:Nat):Int)] [] (.bool (whB c)) []:=by
 unfold whB;by_cases a:c=9
 ·subst a;exact AVX rfl
 by_cases f:c=10
 ·subst f;exact AVW (by decide) rfl
 by_cases b:c=13
 ·subst b;exact AVV (by decide) (by decide) rfl
 have e:(((c.toNat:Nat):Int)==32)=(c==32):=by
  by_cases d:c=32
  ·subst d;rfl
  ·rw[beq_eq_false_iff_ne.2 d,beq_eq_false_iff_ne];exact λh=>d ((u8i c 32).1 h)
 have:=AVU (c:=c) (λh=>a ((u8i c 9).1 h)) (λh=>f ((u8i c 10).1 h)) (λh=>b ((u8i c 13).1 h))
 rw[e] at this;rw[beq_eq_false_iff_ne.2 a,beq_eq_false_iff_ne.2 f,beq_eq_false_iff_ne.2 b];simpa using this
def xU(c:UInt8):E 202 [.int .u8 ((c.toNat:Nat):Int)] [] (.bool (leB c)) []:=by
 unfold leB;by_cases h:97<=c.toNat
 ·have:=AVT (c:=c) am
  rw[decide_eq_true h,Da];have e:decide (((c.toNat:Nat):Int)<=122)=decide (c.toNat<=122):=by by_cases a:c.toNat<=122<;>simp[a]<;>omega
  rwa [e] at this
 ·rw[decide_eq_false h,FB];exact AVS am
def j4(c:UInt8):E 204 [.int .u8 ((c.toNat:Nat):Int)] [] (.bool (diB c)) []:=by
 unfold diB;by_cases h:48<=c.toNat
 ·have:=AW8 (c:=c) am
  rw[decide_eq_true h,Da];have e:decide (((c.toNat:Nat):Int)<=57)=decide (c.toNat<=57):=by by_cases a:c.toNat<=57<;>simp[a]<;>omega
  rwa [e] at this
 ·rw[decide_eq_false h,FB];exact AW7 am
def e144(c:UInt8):E 201 [.int .u8 ((c.toNat:Nat):Int)] [] (.bool (c != 10)) []:=by
 have:=r144 (c:=c)
 have e:(((c.toNat:Nat):Int) != 10)=(c != 10):=by
  by_cases h:c=10
  ·subst h;rfl
  ·rw[bne_iff_ne.2 h,bne_iff_ne];exact λx=>h ((u8i c 10).1 x)
 rwa [e] at this
def e146(c:UInt8):E 203 [.int .u8 ((c.toNat:Nat):Int)] [] (.bool (woB c)) []:=by
 unfold woB;have a:=xU c;have b:=j4 c;cases d:leB c with
 |true=>rw[d] at a;exact AVR a
 |false=>
  rw[d] at a;cases f:diB c with
  |true=>rw[f] at b;exact AVQ a b
  |false=>
   rw[f] at b;have:=AVP a b
   have e:(((c.toNat:Nat):Int)==95)=(c==95):=by
    by_cases h:c=95
    ·subst h;rfl
    ·rw[beq_eq_false_iff_ne.2 h,beq_eq_false_iff_ne];exact λx=>h ((u8i c 95).1 x)
   rw[e] at this;simpa using this
def OJ{s:List UInt8}{i:Nat}(h:i<s.length):∃c l,s.drop i=c::l/\s[i]?=some c/\s.drop (i+1)=l:=by
 refine⟨s[i],s.drop (i+1),BN h,Af h,rfl⟩
def pE{g:FuncId}(p:UInt8->Bool)(f:pur g=true)(m:∀c:UInt8,E g [.int .u8 ((c.toNat:Nat):Int)] [] (.bool (p c)) [])(s:List UInt8)(r:s.length<1000000)(i:Nat)(hi:i<=s.length):
  E 200 [.str s,N i,.func g [] []] [] (N (i+Dc p (s.drop i))) []:=by
 refine r134 ?_
 have d:∀(n i:Nat),i<=s.length->s.length - i=n->LL kL 0 [(0,some (.str s)),(1,some (N i)),(2,some (.func g [] []))] [] (.exit 0) [(1,some (N (i+Dc p (s.drop i))))] []:=by
  intro n
  induction n with
  |zero=>
   intro i hi q;have:s.drop i=[]:=by rw[AY];omega
   rw[this];exact Zo am
  |succ n o=>
   intro i hi q;obtain⟨c,l,j,h,k⟩:=OJ (s:=s) (i:=i) am
   have b:=m c;rw[j];cases a:p c with
   |true=>
    rw[a] at b;have:=o (i+1) am am
    rw[k] at this;have e:Dc p (c::l)=1+Dc p l:=by simp[Dc,BS,a];omega
    rw[e,show i+(1+Dc p l)=i+1+Dc p l by omega]
    exact V7 am h f b am this
   |false=>
    rw[a] at b;have e:Dc p (c::l)=0:=by simp[Dc,BS,a]
    rw[e];exact Zn am h f b
 exact d _ i hi rfl
def jb:∀l:List UInt8,skN true l=Dc (· != 10) l+skN false (l.drop (Dc (· != 10) l))
 |[]=>rfl
 |c::l=>by
  by_cases h:c=10
  ·subst h;have:Dc (· != 10) ((10:UInt8)::l)=0:=by simp[Dc]
   rw[this];simp[skN,whB]
  ·have:Dc (· != 10) (c::l)=1+Dc (· != 10) l:=by simp[Dc,BS,h];omega
   rw[this,skN,if_neg h,jb l,show 1+Dc (· != 10) l=Dc (· != 10) l+1 by omega,Cj];omega
def e132(s:List UInt8)(w:s.length<1000000)(i:Nat)(hi:i<=s.length):E 144 [.str s,N i] [] (N (i+skN false (s.drop i))) []:=by
 have k:∀(n i:Nat),i<=s.length->s.length - i<=n->
   LL U2 0 [(0,some (.str s)),(1,some (N i))] [] (.exit 0) [(1,some (N (i+skN false (s.drop i))))] [] \/
   LL U2 0 [(0,some (.str s)),(1,some (N i))] [] .ret [(4,some (N (i+skN false (s.drop i))))] []:=by
  intro n
  induction n with
  |zero=>
   intro i hi r;have:s.drop i=[]:=by rw[AY];omega
   rw[this];exact .inl (Ph am)
  |succ n p=>
   intro i hi r;rcases Be i s.length with m | v
   ·obtain⟨c,l,o,f,j⟩:=OJ m;have d:=e143 c;rw[o];cases g:whB c with
    |true=>
     rw[g] at d;have e:i+skN false (c::l)=i+1+skN false (s.drop (i+1)):=by rw[j,skN,if_pos g];omega
     rw[e];rcases p (i+1) am am with h | h
     ·exact .inl (Od am f d am h)
     ·exact .inr (Od am f d am h)
    |false=>
     rw[g] at d;by_cases b:c=35
     ·subst b;have a:=pE (· != 10) rfl e144 s w i hi;have u:Dc (· != 10) (s.drop i)=1+Dc (· != 10) l:=by rw[o];simp[Dc,BS];omega
      have q:=J8 (· != 10) l;have t:l.length=s.length - (i+1):=by rw[<-j,Aw]
      have e:i+skN false ((35:UInt8)::l)=i+Dc (· != 10) (s.drop i)+skN false (s.drop (i+Dc (· != 10) (s.drop i))):=by
       rw[u,skN,if_neg (by rw[g];simp),if_pos rfl,jb,<-j,BZ,j]
       rw[show i+1+Dc (λx=>x != 10) l=i+(1+Dc (λx=>x != 10) l) by omega];omega
      rw[e];rcases p (i+Dc (· != 10) (s.drop i)) am am with h | h
      ·exact .inl (Oc am f d rfl a h)
      ·exact .inr (Oc am f d rfl a h)
     ·have e:skN false (c::l)=0:=by rw[skN,if_neg (by rw[g];simp),if_neg b]
      rw[e];exact .inr (Zw am f d (λh=>b ((u8i c 35).1 h)))
   ·have:s.drop i=[]:=by rw[AY];omega
    rw[this];exact .inl (Ph am)
 rcases k _ i hi (Ai _) with h | h
 ·exact AWF h
 ·exact AWE h
def BjE(s:List UInt8)(i:Nat){c:UInt8}(o:s[i]?=some c):∀(n j:Nat),j+n=18->(∀k d,k<j->Hr[k]?=some d->d≠c)->
  (Hr.contains c=false/\LL a206 0 [(0,some (.str s)),(1,some (N i)),(44,some (slF 1 (Hr.map by8))),(45,some (I 18)),(46,some (N j))] [] (.exit 0) [(0,some (.str s)),(1,some (N i)),(44,some (slF 1 (Hr.map by8)))] []) \/
  (Hr.contains c=true/\LL a206 0 [(0,some (.str s)),(1,some (N i)),(44,some (slF 1 (Hr.map by8))),(45,some (I 18)),(46,some (N j))] [] .ret [(4,some (I 1))] []):=by
 have q:Hr.length=18:=rfl;intro n
 induction n with
 |zero=>
  intro j u h;refine .inl ⟨?_,Zh am⟩
  rw[<-FK,CR,BP]
  rintro⟨k,m⟩
  have:=(Ad.1 m).1;exact h k c am m rfl
 |succ n t=>
  intro j u h;have b:j<Hr.length:=am
  have f:=Af b;by_cases a:c=Hr[j]
  ·refine .inr ⟨?_,Zg am f o ((u8i _ _).2 a)⟩
   rw[CR,a];exact Cg b
  ·rcases t (j+1) am (λk d m l=>by
    rcases Be k j with r | r
    ·exact h k d r l
    ·have:k=j:=am
     subst this;rw[f] at l;cases l;exact λe=>a e.symm) with⟨g,p⟩ | ⟨g,p⟩
   ·exact .inl ⟨g,Oa am f o (λe=>a ((u8i _ _).1 e)) am p⟩
   ·exact .inr ⟨g,Oa am f o (λe=>a ((u8i _ _).1 e)) am p⟩
def BVG(s:List UInt8)(K:s.length<1000000)(i:Nat)(hi:i<s.length):E 206 [.str s,N i] [] (N (Ib (s.drop i))) []:=by
 obtain⟨c,l,B,e,t⟩:=OJ hi;have n:=BjE s i e 18 0 rfl (λk d H=>am)
 rw[B]
 have f:∀{r:Nat},(r=if Hr.contains c then 1 else 0)->(∀(L:LL a206 0 [(0,some (.str s)),(1,some (N i)),(44,some (slF 1 (Hr.map by8))),(45,some (I 18)),(46,some (I 0))] [] (.exit 0) [(0,some (.str s)),(1,some (N i)),(44,some (slF 1 (Hr.map by8)))] []),E 206 [.str s,N i] [] (I 0) [])->
   (∀(L:LL a206 0 [(0,some (.str s)),(1,some (N i)),(44,some (slF 1 (Hr.map by8))),(45,some (I 18)),(46,some (I 0))] [] .ret [(4,some (I 1))] []),E 206 [.str s,N i] [] (I 1) [])->E 206 [.str s,N i] [] (N r) []:=by
  intro r w G F;rcases n with⟨q,a2⟩ | ⟨q,a2⟩
  ·rw[w,q];exact G a2
  ·rw[w,q];exact F a2
 rcases Be (i+1) s.length with o | C
 ·obtain⟨d,M,u,b,J⟩:=OJ o;rw[t] at u;have x:l.head?=some d:=by rw[u];rfl
  by_cases p:d=61
  ·subst p;have a:c=61\/c=33\/c=60\/c=62->Ib (c::l)=2:=λh=>by rw[Ib,if_pos ⟨x,h⟩]
   by_cases m:c=61
   ·rw[a (.inl m)];subst m;exact AVM am am b rfl e rfl
   by_cases c2:c=33
   ·rw[a (.inr (.inl c2))];subst c2;exact AVJ am am b rfl e (by decide) rfl
   by_cases j:c=60
   ·rw[a (.inr (.inr (.inl j)))];subst j;exact AVI am am b rfl e (by decide) (by decide) rfl
   by_cases g:c=62
   ·rw[a (.inr (.inr (.inr g)))];subst g;exact AVH am am b rfl e (by decide) (by decide) (by decide) rfl
   have z:((c.toNat:Nat):Int)≠61:=λh=>m ((u8i c 61).1 h)
   have v:((c.toNat:Nat):Int)≠33:=λh=>c2 ((u8i c 33).1 h)
   have y:((c.toNat:Nat):Int)≠60:=λh=>j ((u8i c 60).1 h)
   have A:((c.toNat:Nat):Int)≠62:=λh=>g ((u8i c 62).1 h)
   exact f (by rw[Ib,if_neg (by simp[m,c2,j,g])]) (λL=>AVG am am b rfl e z v y A L) (λL=>AxB am am b rfl e z v y A L)
  ·have nd:((d.toNat:Nat):Int)≠61:=λh=>p ((u8i d 61).1 h)
   exact f (by rw[Ib,if_neg (by rw[x];intro h;exact p (Option.some.inj h.1))]) (λL=>AVL am am b nd L) (λL=>AVK am am b nd L)
 ·have D:l=[]:=by rw[<-t,AY];omega
  subst D;exact f (by rw[Ib,if_neg (by simp)]) (λL=>AVO am am L) (λL=>AVN am am L)
def BVH(w:List UInt8):E 205 [.str w] [] (.bool (kwL.contains w)) []:=by
 refine r147 ?_
 have d:∀ks:List (List UInt8),findKey (.s w) (ks.map Ky.s) (ks.map λ_=>PV.bool true)=if ks.contains w then some (.bool true) else none:=by
  intro ks
  induction ks with
  |nil=>rfl
  |cons a ks c=>
   simp only[Bu,findKey,Ky.s.injEq];by_cases h:a=w
   ·subst h;simp
   ·rw[if_neg h,c];have:(w==a)=false:=by rw[beq_eq_false_iff_ne];exact λe=>h e.symm
    rw[BO,this,CS]
 show(IX (.bool false) false false mO (.str w)).map (λv=>[some v])=_
 have b:(kwL.map Ky.s).all (sameKind (.s w))=true:=rfl;unfold mO IX;simp only[RB,b,Ky.isInt,and_self,if_true,d];cases kwL.contains w<;>rfl
def BxF(s:List UInt8)(r:s.length<1000000):∀(n i:Nat),i<=s.length->s.length - i=n->LL a145 0 [(0,some (.str s)),(8,some (N i))] [] (.exit 1) [(0,some (.str s)),(8,some (N (i+wrN (s.drop i))))] []:=by
 intro n
 induction n with
 |zero=>
  intro i hi t;have:s.drop i=[]:=by rw[AY];omega
  rw[this];exact Zv am
 |succ n u=>
  intro i hi t;obtain⟨c,l,q,g,v⟩:=OJ (s:=s) (i:=i) am
  have f:=e143 c;have a2:=xU c;have j:=j4 c;have a4:=BVG s r i am
  rw[q] at a4 ⊢;have a:J3 c l=true->wrN (c::l)=0:=λh=>by rw[wrN,if_pos h]
  cases o:whB c with
  |true=>rw[o] at f;rw[a (by simp[J3,o])];exact Zu am g f
  |false=>
   rw[o] at f;by_cases d:c=35
   ·rw[a (by simp[J3,d])];subst d;exact Zt am g f rfl
   have b:((c.toNat:Nat):Int)≠35:=λh=>d ((u8i c 35).1 h)
   cases m:leB c with
   |true=>rw[m] at a2;rw[a (by simp[J3,m])];exact Zr am g f b a2
   |false=>
    rw[m] at a2;cases k:diB c with
    |true=>rw[k] at j;rw[a (by simp[J3,k])];exact Zq am g f b a2 j
    |false=>
     rw[k] at j;by_cases p:Ib (c::l)=0
     ·have e:wrN (c::l)=1+wrN l:=by rw[wrN,if_neg];simp[J3,o,d,m,k,p]
      have:=u (i+1) am am
      rw[v] at this;rw[e,show i+(1+wrN l)=i+1+wrN l by omega]
      exact V8 am g f b a2 j a4 am am this
     ·rw[a (by simp[J3,p])]
      exact Zp am g f b a2 j a4 am
def XY{l:List UInt8}(h:l≠[]):0<(Ia l).2/\(Ia l).2<=l.length:=by
 cases l with
 |nil=>exact absurd rfl h
 |cons c l=>
  unfold Ia;simp only[List.headD_cons,List.tail_cons];by_cases a:leB c=true
  ·simp only[a,if_true];refine⟨?_,J8 _ _⟩
   have:woB c=true:=by simp[woB,a]
   simp[Dc,this]
  ·by_cases b:diB c=true
   ·simp only[a,b,if_true,Bool.false_eq_true,if_false];refine⟨?_,J8 _ _⟩
    simp[Dc,b]
   ·by_cases d:0<Ib (c::l)
    ·simp only[a,b,d,if_true,Bool.false_eq_true,if_false];exact⟨trivial,RS _⟩
    ·have:=iE l;simp only[a,b,d,Bool.false_eq_true,if_false,Ah];omega
def e133(s:List UInt8)(d:s.length<1000000)(i:Nat)(hi:i<s.length):E 145 [.str s,N i] [] (.tuple [N (Ia (s.drop i)).1,N (i+(Ia (s.drop i)).2)]) []:=by
 obtain⟨c,l,f,b,n⟩:=OJ hi;have a2:=xU c;have a:=j4 c;unfold Ia;have o:(s.drop i).headD 0=c:=by rw[f];rfl
 have m:(s.drop i).tail=l:=by rw[f];rfl
 rw[o,m];cases j:leB c with
 |true=>
  rw[j] at a2;have a4:=pE woB rfl e146 s d i am
  have e:=J8 woB (s.drop i);rw[Aw] at e;have a5:=K8 s i (i+Dc woB (s.drop i));rw[show i+Dc woB (s.drop i) - i=Dc woB (s.drop i) by omega] at a5
  have a6:=BVH ((s.drop i).take (Dc woB (s.drop i)));simp only[if_true];cases h:kwL.contains ((s.drop i).take (Dc woB (s.drop i))) with
  |true=>rw[h] at a6;exact AWD b a2 a4 a5 a6
  |false=>rw[h] at a6;exact AWC b a2 a4 a5 a6
 |false=>
  rw[j] at a2;simp only[Bool.false_eq_true,if_false];cases k:diB c with
  |true=>
   rw[k] at a;simp only[if_true];exact AWB b a2 a (pE diB rfl j4 s d i am)
  |false=>
   rw[k] at a;simp only[Bool.false_eq_true,if_false];have a4:=BVG s d i hi;have:=RS (s.drop i);rw[Aw] at this;by_cases g:0<Ib (s.drop i)
   ·rw[if_pos g];exact AWA b a2 a a4 am am am
   ·rw[if_neg g];have a5:=BxF s d _ (i+1) am rfl
    rw[n] at a5;have:=AW9 b a2 a a4 am am a5
    rwa [show i+1+wrN l=i+(1+wrN l) by omega] at this
def BjR(s:List UInt8)(c:s.length<1000000):∀(n f:Nat) (a:List Tk),f<=s.length->s.length - f<n->a.length+n<=2000000->
  LL a94 0 [(0,some (.str s)),(4,some (BI 4 (a.map Tk.pv))),(5,some (N f))] [] .ret [(2,some (BI 4 ((a++JK n (s.drop f) f).map Tk.pv))),(3,some (I 0))] []
 |0,f,a,_,h,_=>am
 |n+1,f,a,m,h,o=>by
  have e:=e132 s c f m;have k:=Mi false (s.drop f);rw[Aw] at k;have i:(a.map Tk.pv).length+1<=Bo:=by rw[Ap];unfold Bo;omega
  rw[JK];by_cases b:(s.drop f).drop (skN false (s.drop f))=[]
  ·simp only[b,if_true,BV];rw[BZ,AY] at b;exact dn (m2:=f+skN false (s.drop f)) e am i
  ·simp only[b,if_false];rw[BZ] at b
   have d:f+skN false (s.drop f) < s.length:=by
    rcases Be (f+skN false (s.drop f)) s.length with j | j
    ·exact j
    ·exact absurd (AY.2 am) b
   have a2:=e133 s c (f+skN false (s.drop f)) d;have l:=XY b;rw[Aw] at l;have:=BjR s c n (f+skN false (s.drop f)+(Ia (s.drop (f+skN false (s.drop f)))).2) (a++[⟨(Ia (s.drop (f+skN false (s.drop f)))).1,f,f+skN false (s.drop f),f+skN false (s.drop f)+(Ia (s.drop (f+skN false (s.drop f)))).2⟩]) am am (by simp;omega)
   rw[AC,BV (l₁:=a) (l₂:=[_])] at this;simp only[BZ];exact Yh e am a2 i this
def uN(n:Nat)(l:List UInt8)(f:Nat):JK (n+1) l f≠[]:=by
 simp only[JK];split<;>simp
def e97(s:List UInt8)(d:s.length<=4096):E 94 [.str s] [] (.tuple [slF 4 ((Gl s).map Tk.pv),I 0]) []:=by
 have c:=BjR s am (s.length+1) 0 [] am am (by simp;omega)
 have a:=Bk3 am c
 have e:Ci 4 (([]++JK (s.length+1) (s.drop 0) 0).map Tk.pv)=slF 4 ((Gl s).map Tk.pv):=by
  show Ci 4 ((Gl s).map Tk.pv)=_;cases b:Gl s with
  |nil=>exact absurd b (uN _ _ _)
  |cons t ts=>rfl
 rwa [e] at a
def aS(H T:Sto)(g:Nat)(Ds:List Dg):Sto:=H++[.arrv g 5 (Ds.map Dg.pv)]::T
section
variable{H T:Sto}{g n j:Nat}{Ds:List Dg}{d:Dg}
def kI:(aS H T g Ds)[H.length]?=some [.arrv g 5 (Ds.map Dg.pv)]:=by
 unfold aS;rw[Aq (Ai _),E5];rfl
def yM{x:List PV}:(aS H T g Ds).set H.length x=H++x::T:=by
 unfold aS;rw[List.set_append_right _ _ (Ai _),E5];rfl
def Kb{id:Nat}(h:j<n):AQ (.idx 5) [.arr id g 0 n 5,N j]=some [some (.aptr id g 5 j 0)]:=by
 show(if 5=5/\(0:Int)<=(j:Int)/\(j:Int) < n then some (PV.aptr id g 5 (0+(j:Int).toNat) 0) else none).map (λv=>[some v])=_
 rw[if_pos ⟨rfl,am,am⟩,EH,BB];rfl
def ldA(h:Ds[j]?=some d):Dq (.ld 5 true) [.aptr H.length g 5 j 0] (aS H T g Ds)=some [some d.pv]:=by
 simp only[Dq,kI,Jl,and_self,if_true,Al,h,AJ];rfl
def stA(h:j<Ds.length):Bt pur run (.w (.st 5)) [.aptr H.length g 5 j 0,d.pv] (aS H T g Ds) [] (aS H T g (Ds.set j d)):=by
 refine⟨0,λn _=>?_⟩
 have a:(Ds.map Dg.pv)[j]?=some (Ds[j].pv):=by rw[Al,Af h];rfl
 show Fj pur (run n) (.st 5) [.aptr H.length g 5 j 0,d.pv] (aS H T g Ds)=_;simp only[Fj,kI,Jl,and_self,if_true,a];rw[if_pos ⟨rfl,rfl,rfl⟩];have:upd Ds[j].pv 0 d.pv.Ag=some d.pv:=rfl;rw[this,AJ,yM];unfold aS;rw[List.map_set]
end
def Fb(a b:Nat)(h:b<=a)(c:a<2000000000):AQ (.bin .sub 0) [.int .i64 (a:Nat),.int .i64 (b:Nat)]=some [some (.int .i64 ((a - b:Nat):Int))]:=X0 a b h c
def AzO(a:Nat)(h:a<2000000000):AQ (.cvt .u64) [.int .i64 (a:Nat)]=some [some (.int .u64 (a:Nat))]:=by
 apply aF;simp[IntKind.wrap,IntKind.bits,IntKind.signed];omega
def AzP(a:Nat)(h:a<2000000000):AQ (.cvt .i64) [.int .u64 (a:Nat)]=some [some (.int .i64 (a:Nat))]:=by
 apply aF;simp[IntKind.wrap,IntKind.bits,IntKind.signed];omega
def AxU(a b:Nat)(h:a * b<2000000000):AQ (.bin .mul 0) [.int .i64 (a:Nat),.int .i64 (b:Nat)]=some [some (.int .i64 ((a * b:Nat):Int))]:=by
 apply jL;rw[<-Int.natCast_mul];simp[IntKind.wrap,IntKind.bits,IntKind.signed];omega
def AqD(a:Nat)(h:a<2000000000):AQ (.bin .shr 0) [.int .u64 (a:Nat),.int .u64 1]=some [some (.int .u64 ((a / 2:Nat):Int))]:=by
 have e:(a:Int).fdiv (2 ^ min 1 IntKind.u64.bits)=((a / 2:Nat):Int):=by
  show(a:Int).fdiv 2=_;rw[Int.fdiv_eq_ediv_of_nonneg _ (by decide)];rfl
 have:Go.binOp .shr 0 (.int .u64 (a:Int)) (.int .u64 1)=.pure (.int .u64 ((a / 2:Nat):Int)):=by
  show Sem.pure (Value.int .u64 ((a:Int).fdiv (2 ^ min 1 IntKind.u64.bits)))=_;rw[e]
 show(match Go.binOp .shr 0 (.int .u64 (a:Int)) (.int .u64 1) with
    |.pure (.int b n)=>some (PV.int b n)
    |_=>none).map (λv=>[some v])=_
 rw[this];rfl
end Go.Abs.Z

namespace Go.Abs.Z
open Go.Proofs Go.RowKit
def QG(T:Tr)(d:Nat):AQ (.ldf d 1 false) [.lref d 4,T.pv]=some [some T.kp]:=by
 show(if d=d then _ else _)=_
 rw[if_pos rfl,Tr.He];obtain⟨k,t,a,e,n,ks⟩:=T;cases n<;>rfl
def srV(s:List UInt8)(T:Tr)(ts:List Tk)(w:Bool):PV:=.agg [.str s,.int .i64 T.kind,.str T.text,.int .i64 T.st,.int .i64 T.en,T.kp,.slice false 4 (ts.map Tk.pv),.bool w]
section
variable(s:List UInt8)(T:Tr)(ts:List Tk)(w:Bool)
def Kh:(srV s T ts w).Ag=srV s T ts w:=by unfold srV;simp
def lh:(srV s T ts w).free=true:=rfl
def X5:(srV s T ts w).flat=true:=rfl
def um:(srV s T ts w).KO=true:=rfl
def X4:(srV s T ts w).ones=true:=by obtain⟨k,t,a,e,n,ks⟩:=T;cases n<;>rfl
def SG:(srV s T ts w).cells.length=8:=rfl
def ul:(srV s T ts w).okc=true:=rfl
def BjJ:LU (srV s T ts w) (some 8)=true:=by obtain⟨k,t,a,e,n,ks⟩:=T;cases n<;>rfl
end
attribute [simp] Kh lh X5 um X4 SG ul BjJ
def ja(s:List UInt8)(T:Tr)(ts:List Tk)(w:Bool):AQ (.sti 8) [.hole 8,srV s T ts w]=some [some (.vptr (srV s T ts w))]:=by
 show(if _ then _ else _)=_
 rw[if_pos ⟨rfl,SG ..,X5 ..,X4 ..⟩,Kh]
def Gz{a:Sto}(s:List UInt8)(T:Tr)(ts:List Tk)(w:Bool):Dq (.ld 8 true) [.vptr (srV s T ts w)] a=some [some (srV s T ts w)]:=Xe rfl (lh ..) (Kh ..)
def Hl(s:List UInt8)(T:Tr)(ts:List Tk)(w:Bool):AQ .bx [srV s T ts w]=some [some (.vptr (srV s T ts w))]:=nD (X5 ..) (Kh ..)
def ym(s:List UInt8)(T:Tr)(ts:List Tk)(w:Bool):AQ (.build [.str [],.int .i64 0,.str [],.int .i64 0,.int .i64 0,.nils,.nils,.bool false] [(0,1),(1,5),(6,1),(7,1)]) [.str s,T.pv,.slice false 4 (ts.map Tk.pv),.bool w]=some [some (srV s T ts w)]:=yn (by obtain⟨k,t,a,e,n,ks⟩:=T;cases n<;>rfl)
def AJX(s:List UInt8)(T:Tr)(ts:List Tk)(w:Bool)(a b c d e f g h:PV):AQ (.stl 0 8) [.agg [a,b,c,d,e,f,g,h],srV s T ts w]=some [some (srV s T ts w)]:=
 iZ (SG ..) (ul ..) (X4 ..) (by rw[Kh];rfl)
def CP{l:List PV}(i:Nat){v:PV}(h:l[i]?=some v)(b:l.all PV.free=true)(a:v.Ag=v):AQ (.ext i) [.tuple l]=some [some v]:=LA i h ⟨b,a⟩
def ex0(U:Tr)(v:PV)(h:v.free=true:=by rfl):AQ (.ext 0) [.tuple [U.pv,v]]=some [some U.pv]:=CP 0 rfl (by simp[h]) U.Ef
def ex1(U:Tr)(v:PV)(h:v.free=true:=by rfl)(a:v.Ag=v:=by rfl):AQ (.ext 1) [.tuple [U.pv,v]]=some [some v]:=CP 1 rfl (by simp[h]) a
abbrev no5(v:PV):PV:=.tuple [.agg [I 0,I 0,.str []],v]
def jW(s:List UInt8)(T:Tr)(ts:List Tk)(w b:Bool):AQ (.ext 0) [.tuple [srV s T ts w,.bool b]]=some [some (srV s T ts w)]:=CP 0 rfl (by rfl) (Kh ..)
def jD{f:FuncId}{vs zs:List PV}{c a b:Sto}{r r':PV}(h:E f zs c r a)(d:vs.map PV.Ag=zs)(i:vs.all PV.free=true)(e:o5 r a=some (r',b)):Bt pur run (.w (.callz f)) vs c [some r'] b:=by
 obtain⟨N,H⟩:=h;refine⟨N,λn g=>?_⟩
 show(if vs.all PV.free then _ else _)=_
 rw[if_pos i,d,H n g,Ep];show(o5 r a).map _=_;rw[e];rfl
end Go.Abs.Z

namespace Go.Abs.Z
open Go.Proofs Go.RowKit
def yP:Rn 111 a111:=rn
def yQ:Rn 157 a157:=rn
section
variable{cs:List PV}(a:(PV.func 159 [] cs).EO=true)
include a
end
end Go.Abs.Z

namespace Go.Abs.Z
def Dok(k:Nat)(D:List AD):Prop:=D.Pairwise (λa b=>a.i<b.i)/\∀d∈D,d.i<=k
def Dok.le{k a:Nat}{D:List AD}(h:Dok k D)(b:k<=a):Dok a D:=⟨h.1,λd c=>Bf (h.2 d c) b⟩
def Dok.rp{k:Nat}{D:List AD}(h:Dok k D)(c:Nat)(x:List UInt8):Dok k (rp D c k x):=by
 unfold Z.rp;split
 ·exact h
 ·rename_i r;refine⟨List.pairwise_append.2 ⟨h.1,by simp,λa m b o=>?_⟩,λd g=>?_⟩
  ·rw[BR] at o;subst o;show a.i<k;rcases Be a.i k with n | n
   ·exact n
   ·exfalso
    have l:a.i=k:=by have:=h.2 a m;omega
    apply r;obtain⟨i,hi⟩:=BP.1 m;have f:D≠[]:=by intro e;subst e;cases m
    rw[List.getLast?_eq_some_getLast f,AJ]
    have t:=List.getLast_mem f;have p:=h.2 _ t;congr 1;have j:=(Ad.1 hi).1;by_cases s:i=D.length - 1
    ·rw[List.getLast_eq_getElem f];have:=(Ad.1 hi).2;subst s;rw[this];exact l
    ·have q:=List.pairwise_iff_getElem.1 h.1 i (D.length - 1) j am am
     rw[(Ad.1 hi).2] at q;rw[List.getLast_eq_getElem f];rw[List.getLast_eq_getElem f] at p;omega
  ·rcases Bv.1 g with g | g
   ·exact h.2 d g
   ·rw[BR] at g;subst g;exact Ai _
def eT:∀(D:List AD) (a k:Nat),D.Pairwise (λa b=>a.i<b.i)->(∀d∈D,a<=d.i/\d.i<=k)->a<=k+1->D.length+a<=k+1
 |[],a,k,_,_,h=>by simpa using h
 |d::D,a,k,f,i,_=>by
  obtain⟨j,l⟩:=i d (AV ..);rw[CB] at f;have:=eT D (d.i+1) k f.2 (λe g=>⟨f.1 e g,(i e (AP _ g)).2⟩) am
  simp only[Ah];omega
def Dok.len{k:Nat}{D:List AD}(h:Dok k D):D.length<=k+1:=by
 have:=eT D 0 k h.1 (λd a=>⟨Ca _,h.2 d a⟩) am
 omega
section
variable{w:Nat->Wd}{m:Nat}{c:NT->Nat->List AD->LF}
def BYW(m:Nat)(k:Nat)(D:List AD)(r:Rs×Nat×List AD):Prop:=k<=r.2.1/\r.2.1<=m/\Dok r.2.1 r.2.2
def OkI(m:Nat)(c:NT->Nat->List AD->LF):Prop:=∀x k D r,c x k D=some r->k<=m->Dok k D->BYW m k D r
def MZ(A:(w m).1=5)(z:OkI m c):∀(p:Pg) (k:Nat) (D:List AD) (r:Rs×Nat×List AD),Ml w c p k D=some r->k<=m->Dok k D->BYW m k D r:=by
 intro p
 induction p with
 |ret v=>intro k D r h b a;cases h;exact⟨Ai _,b,a⟩
 |look f d=>intro k D r h b a;exact d _ _ _ k D r h b a
 |read p d=>
  intro k D r h b a;simp only[Ml] at h
  split at h
  ·cases h
  ·rename_i n
   have g:k<m:=by
    rcases Be k m with l | l
    ·exact l
    ·have:k=m:=am
     subst this;exact absurd A n
   obtain⟨j,i,s⟩:=d (k+1) D r h g (a.le am)
   exact⟨am,i,s⟩
 |report e t p d=>
  intro k D r h b a;exact d k (rp D e k t) r h b (a.rp e t)
 |call x f d=>
  intro k D r h b a;simp only[Ml] at h;obtain⟨⟨v,o,q⟩,j,i⟩:=AB.1 h;obtain⟨E,a2,y⟩:=z x k D _ j b a;obtain⟨u,C,B⟩:=d v o q r i a2 y;exact⟨Bf E u,C,B⟩
def Gt(b:(w m).1=5):∀n,OkI m (runN w n)
 |0=>λx k D r h=>by cases h
 |n+1=>λx k D r h=>MZ b (Gt b n) (prog x) k D r h
structure G3(w:Nat->Wd)(m:Nat)(c:NT->Nat->List AD->LF)(r:Rs×Nat×List AD)(p:Pg)(k:Nat)(D:List AD):Prop where
 run:Ml w c p k D=some r
 le:k<=m
 ok:Dok k D
variable{r:Rs×Nat×List AD}{p q:Pg}{k:Nat}{D:List AD}
def G3.ifW{a:List (List UInt8)}(h:G3 w m c r (Pg.ifW a p q) k D):(a.contains (w k).2=true/\G3 w m c r p k D)\/(a.contains (w k).2=false/\G3 w m c r q k D):=by
 have b:Ml w c (if a.contains (w k).2=true then p else q) k D=some r:=h.run
 cases d:a.contains (w k).2 with
 |true=>rw[d] at b;exact .inl ⟨rfl,b,h.le,h.ok⟩
 |false=>rw[d] at b;exact .inr ⟨rfl,b,h.le,h.ok⟩
def G3.ifK{j:Nat}(h:G3 w m c r (Pg.ifK j p q) k D):((w k).1=j/\G3 w m c r p k D)\/((w k).1≠j/\G3 w m c r q k D):=by
 have b:Ml w c (if(w k).1=j then p else q) k D=some r:=h.run
 by_cases a:(w k).1=j
 ·rw[if_pos a] at b;exact .inl ⟨a,b,h.le,h.ok⟩
 ·rw[if_neg a] at b;exact .inr ⟨a,b,h.le,h.ok⟩
def G3.look{f:Wd->Wd->Nat->Pg}(h:G3 w m c r (.look f) k D):G3 w m c r (f (w k) (w (k+1)) k) k D:=⟨h.run,h.le,h.ok⟩
def G3.mrk{g:Nat->Pg}(h:G3 w m c r (Pg.mrk g) k D):G3 w m c r (g k) k D:=⟨h.run,h.le,h.ok⟩
def G3.bd{kd f:Nat}{tx:List UInt8}{b:Bool}{ks:List AT}{g:AT->Pg}(h:G3 w m c r (Pg.bd kd tx f b ks g) k D):G3 w m c r (g (.mk kd tx f k b ks)) k D:=⟨h.run,h.le,h.ok⟩
def G3.read(f:(w m).1=5)(h:G3 w m c r (.read p) k D):k<m/\G3 w m c r p (k+1) D:=by
 have b:=h.run;simp only[Ml] at b
 split at b
 ·cases b
 ·rename_i e
  have a:k<m:=by
   rcases Be k m with d | d
   ·exact d
   ·have:k=m:=by have:=h.le;omega
    subst this;exact absurd f e
  exact⟨a,b,a,h.ok.le am⟩
def G3.rd(a:(w m).1=5){g:List UInt8->Pg}(h:G3 w m c r (Pg.rd g) k D):k<m/\G3 w m c r (g (w k).2) (k+1) D:=G3.read a (p:=g (w k).2) ⟨h.run,h.le,h.ok⟩
def G3.rep{e:Nat}{t:List UInt8}(h:G3 w m c r (.report e t p) k D):G3 w m c r p k (rp D e k t):=⟨h.run,h.le,h.ok.rp e t⟩
def G3.call(j:OkI m c){x:NT}{f:Rs->Pg}(h:G3 w m c r (.call x f) k D):∃v a b,c x k D=some (v,a,b)/\k<=a/\G3 w m c r (f v) a b:=by
 have e:=h.run;simp only[Ml] at e;obtain⟨⟨v,a,b⟩,d,l⟩:=AB.1 e;obtain⟨i,a2,g⟩:=j x k D _ d h.le h.ok;exact⟨v,a,b,d,i,l,a2,g⟩
def G3.cl(d:OkI m c){x:NT}{g:AT->Pg}(h:G3 w m c r (Pg.cl x g) k D):∃v a b,c x k D=some (v,a,b)/\k<=a/\G3 w m c r (g v.1) a b:=G3.call d (f:=λv=>g v.1) ⟨h.run,h.le,h.ok⟩
def G3.lst{x:NT}(h:G3 w m c r (Pg.lst x) k D):c x k D=some r:=by
 have b:(c x k D).bind (λr=>some (r.1,r.2.1,r.2.2))=some r:=h.run
 obtain⟨v,a,d⟩:=AB.1 b;cases d;exact a
def G3.ret{v:Rs}(h:G3 w m c r (.ret v) k D):r=(v,k,D):=by
 have:=h.run;cases this;rfl
end
end Go.Abs.Z

namespace Go.Abs.Z
def AT.fst:AT->Nat
 |.mk _ _ f _ _ _=>f
def AT.lst:AT->Nat
 |.mk _ _ _ k _ _=>k
mutual

def AT.ok:AT->Prop
 |.mk _ _ f k _ ks=>f<=k/\ks.length<1000000000/\oks f k ks
def oks:Nat->Nat->List AT->Prop
 |lo,hi,[]=>lo<=hi
 |lo,hi,x::xs=>lo<=x.fst/\x.ok/\oks x.lst hi xs
end
def AT.ok.le:∀{x:AT},x.ok->x.fst<=x.lst
 |.mk _ _ _ _ _ _,h=>h.1
def oks.le:∀{xs:List AT} {lo hi:Nat},oks lo hi xs->lo<=hi
 |[],_,_,h=>h
 |x::xs,lo,hi,h=>by
  obtain⟨c,a,b⟩:=h;have:=a.le;have:=oks.le b;omega
def oks.up:∀{xs:List AT} {lo hi a:Nat},oks lo hi xs->hi<=a->oks lo a xs
 |[],_,_,_,h,b=>Bf h b
 |x::xs,lo,hi,a,h,b=>⟨h.1,h.2.1,oks.up h.2.2 b⟩
def oks.down:∀{xs:List AT} {lo a hi:Nat},oks lo hi xs->a<=lo->oks a hi xs
 |[],_,_,_,h,b=>Bf b h
 |x::xs,lo,a,hi,h,b=>⟨Bf b h.1,h.2.1,h.2.2⟩
def oks.snoc:∀{xs:List AT} {lo hi a:Nat} {x:AT},oks lo hi xs->hi<=x.fst->x.ok->x.lst<=a->oks lo a (xs++[x])
 |[],_,_,_,_,h,b,d,c=>⟨Bf h b,d,c⟩
 |y::xs,lo,hi,a,x,h,b,d,c=>⟨h.1,h.2.1,oks.snoc h.2.2 b d c⟩
def In(lo hi:Nat)(x:AT):Prop:=lo<=x.fst/\x.ok/\x.lst<=hi
def In.KF{lo hi:Nat}{x:AT}(h:In lo hi x):oks lo hi [x]:=⟨h.1,h.2.1,h.2.2⟩
def In.up{lo hi a:Nat}{x:AT}(h:In lo hi x)(b:hi<=a):In lo a x:=⟨h.1,h.2.1,Bf h.2.2 b⟩
def In.down{lo a hi:Nat}{x:AT}(h:In lo hi x)(b:a<=lo):In a hi x:=⟨Bf b h.1,h.2.1,h.2.2⟩
def MI{f k:Nat}{kd:Nat}{tx:List UInt8}{b:Bool}{ks:List AT}(h:oks f k ks)(a:ks.length<1000000000:=by simp):In f k (.mk kd tx f k b ks):=⟨Ai _,⟨h.le,a,h⟩,Ai _⟩
def in0{f k:Nat}{kd:Nat}{tx:List UInt8}{b:Bool}(h:f<=k):In f k (.mk kd tx f k b []):=MI h (by decide)
def Gp{lo a hi:Nat}{x:AT}{xs:List AT}(h:In lo a x)(b:oks a hi xs):oks lo hi (x::xs):=⟨h.1,h.2.1,b.down h.2.2⟩
section
variable{w:Nat->Wd}{m n:Nat}{k f:Nat}{D:List AD}{c:NT->Nat->List AD->LF}{r:Rs×Nat×List AD}{p q:Pg}
def EI(n:Nat):NT->Nat->Rs->Nat->Prop
 |.ex _,k,v,b=>In k b v.1
 |.lp _ f x,k,v,b=>In f k x->In f b v.1
 |.tl _ a,k,v,b=>a.length+n<1000000000->v.2.length<1000000000/\∀lo,oks lo k a->oks lo b v.2
 |.sts a,k,v,b=>a.length+n<1000000000->v.2.length<1000000000/\∀lo,oks lo k a->oks lo b v.2
 |.pg a,k,v,b=>a.length+n<1000000000->v.2.length<1000000000/\∀lo,oks lo k a->oks lo b v.2
 |.bk,k,v,b=>In k b v.1
 |.st,k,v,b=>In k b v.1
 |.br,k,v,b=>In k b v.1
 |.sk _,_,_,_=>True
 |.sp,_,_,_=>True
def QY(m n:Nat)(c:NT->Nat->List AD->LF):Prop:=OkI m c/\∀x k D v a b,c x k D=some (v,a,b)->k<=m->Dok k D->EI n x k v a
def iac(a:(w m).1=5)(x:List UInt8)(h:G3 w m c r (Pg.ifW [x] (.read p) q) k D):G3 w m c r p (k+1) D\/G3 w m c r q k D:=by
 rcases h.ifW with⟨_,h⟩ | ⟨_,h⟩
 ·exact .inl (h.read a).2
 ·exact .inr h
def ixp(d:(w m).1=5)(x:List UInt8)(h:G3 w m c r (Pg.xp x p) k D):∃a b,k<=a/\G3 w m c r p a b:=by
 rcases iac d x h with h | h
 ·exact⟨_,_,am,h⟩
 ·exact⟨_,_,Ai _,h.rep⟩
def inm(d:(w m).1=5){g:List UInt8->Pg}(h:G3 w m c r (Pg.nm g) k D):∃x a b,k<=a/\G3 w m c r (g x) a b:=by
 rcases h.ifK with⟨_,h⟩ | ⟨_,h⟩
 ·exact⟨_,_,_,am,(h.rd d).2⟩
 ·exact⟨_,_,_,Ai _,h.rep⟩
def inum(d:(w m).1=5){g:List UInt8->Pg}(h:G3 w m c r (Pg.num g) k D):∃x a b,k<=a/\G3 w m c r (g x) a b:=by
 rcases h.ifK with⟨_,h⟩ | ⟨_,h⟩
 ·exact⟨_,_,_,am,(h.rd d).2⟩
 ·exact⟨_,_,_,Ai _,h.rep⟩
def AUJ{g:AT->Pg}(h:G3 w m c r (Pg.nop g) k D):∃x,In k k x/\G3 w m c r (g x) k D:=⟨_,in0 (Ai _),h.mrk.bd⟩
def xE{g:AT->Pg}(h:G3 w m c r (Pg.miss g) k D):∃x,In k k x/\G3 w m c r (g x) k D:=⟨_,in0 (Ai _),h.mrk.bd⟩
def iwr(a:(w m).1=5){g:AT->Pg}(h:G3 w m c r (written g) k D):∃x b e,k<=b/\In k b x/\G3 w m c r (g x) b e:=by
 rcases iac a [58] h with h | h
 ·have h:=h.mrk;rcases iac a NY h with h | h
  ·rcases iac a [91] h with h | h
   ·obtain⟨x,b,e,l,h⟩:=inum a h;obtain⟨i,o,j,h⟩:=ixp a [93] h;exact⟨_,_,_,am,(in0 (f:=k+1) (k:=i) am).down am,h.bd⟩
   ·exact⟨_,_,_,am,(in0 (f:=k+1) am).down am,h.bd⟩
  ·rcases iac a Km h with h | h
   ·exact⟨_,_,_,am,(in0 (f:=k+1) am).down am,h.bd⟩
   ·rcases h.ifK with⟨_,h⟩ | ⟨_,h⟩
    ·exact⟨_,_,_,am,(in0 (f:=k+1) (k:=k+1+1) am).down am,(h.rd a).2.bd⟩
    ·obtain⟨x,d,h⟩:=xE h.rep;exact⟨_,_,_,am,d.down am,h⟩
 ·obtain⟨x,d,h⟩:=AUJ h;exact⟨_,_,_,Ai _,d,h⟩
def AUK(b:(w m).1=5){g:AT->Pg}(h:G3 w m c r (QL g) k D):∃x a e,k<=a/\In k a x/\G3 w m c r (g x) a e:=by
 obtain⟨x,a,e,l,h⟩:=inm b h.mrk;obtain⟨d,o,j,h⟩:=ixp b [58] h;rcases h.ifW with⟨_,h⟩ | ⟨_,h⟩
 ·have h:=(h.mrk.rd b).2;exact⟨_,_,_,am,MI ((in0 (f:=d) (k:=d+1) am).down am).KF,h.bd.bd⟩
 ·obtain⟨y,i,h⟩:=xE h.rep;exact⟨_,_,_,am,MI (i.down am).KF,h.bd⟩
def AUH(b:(w m).1=5){g:AT->Pg}(h:G3 w m c r (Qx g) k D):∃x a e,k<=a/\In k a x/\G3 w m c r (g x) a e:=by
 rcases iac b Ow h.mrk with h | h
 ·obtain⟨x,a,e,o,h⟩:=inm b h;obtain⟨t,i,l,j,d,h⟩:=iwr b h;exact⟨_,_,_,am,MI (d.down am).KF,h.bd⟩
 ·obtain⟨x,a,e,o,h⟩:=inm b h;obtain⟨t,i,l,j,d,h⟩:=iwr b h;exact⟨_,_,_,am,MI (d.down am).KF,h.bd⟩
def BZO(d:(w m).1=5){g:AT->Pg}(h:G3 w m c r (Jq g) k D):∃x a b,k<=a/\In k a x/\G3 w m c r (g x) a b:=by
 obtain⟨x,a,b,e,h⟩:=inm d h.mrk;exact⟨_,_,_,am,in0 am,h.bd⟩
def iex(d:QY m n c){L:Nat}{g:AT->Pg}(h:G3 w m c r (Pg.cl (.ex L) g) k D):∃x a b,k<=a/\In k a x/\G3 w m c r (g x) a b:=by
 obtain⟨v,a,b,e,j,i⟩:=h.cl d.1;exact⟨v.1,a,b,j,d.2 _ _ _ _ _ _ e h.le h.ok,i⟩
def ibk(d:QY m n c){g:AT->Pg}(h:G3 w m c r (Pg.cl .bk g) k D):∃x a b,k<=a/\In k a x/\G3 w m c r (g x) a b:=by
 obtain⟨v,a,b,e,j,i⟩:=h.cl d.1;exact⟨v.1,a,b,j,d.2 _ _ _ _ _ _ e h.le h.ok,i⟩
def AkU(b:(w m).1=5)(i:QY m n c)(e:El){g:AT->Pg}(h:G3 w m c r (Xy e g) k D):∃x a d,k<=a/\In k a x/\G3 w m c r (g x) a d:=by
 cases e with
 |fd=>exact AUK b h
 |pa=>exact AUH b h
 |ex=>exact iex i h
def mV(s:(w m).1=5)(b:QY m n c)(A:n<900000000)(e:El){g:List AT->Pg}(h:G3 w m c r (Px e g) k D):∃l a d,k<=a/\oks k a l/\l.length<1000000000/\G3 w m c r (g l) a d:=by
 obtain⟨x,a,d,C,y,h⟩:=AkU s b e h;obtain⟨v,i,t,z,B,u⟩:=h.call b.1;obtain⟨o,j⟩:=b.2 _ _ _ _ _ _ z h.le h.ok (by simp;omega)
 exact⟨v.2,i,t,am,j k y.KF,o,u⟩
def AkV(a:(w m).1=5)(s:QY m n c)(t:n<900000000){g:List AT->Pg}(h:G3 w m c r (UR g) k D):∃l d y,k<=d/\oks k d l/\l.length<1000000000/\G3 w m c r (g l) d y:=by
 have h:=(h.read a).2;rcases h.ifW with⟨_,h⟩ | ⟨_,h⟩
 ·obtain⟨b,e,i,h⟩:=ixp a [41] h;exact⟨[],b,e,am,show k<=b by omega,by decide,h⟩
 ·obtain⟨l,b,e,i,v,o,h⟩:=mV a s t .ex h;obtain⟨x,j,u,h⟩:=ixp a [41] h;exact⟨l,x,j,am,(v.down am).up u,o,h⟩
def xA(a:(w m).1=5)(l:QY m n c){g:AT->Pg}(h:G3 w m c r (OG g) k D):∃x b e,k<=b/\In k b x/\G3 w m c r (g x) b e:=by
 obtain⟨v,b,e,s,d,h⟩:=BZO a h.mrk;rcases iac a [91] h with h | h
 ·obtain⟨y,i,j,t,u,h⟩:=iex l h;obtain⟨A,z,o,h⟩:=ixp a [93] h;exact⟨_,_,_,am,MI (Gp d ((u.down am).up o).KF),h.bd⟩
 ·rcases iac a [46] h with h | h
  ·obtain⟨x,i,j,t,h⟩:=inm a h;exact⟨_,_,_,am,MI (d.up am).KF,h.bd⟩
  ·exact⟨_,_,_,s,d,h⟩
def mU(a:(w m).1=5)(e:QY m n c)(o:n<900000000){g:AT->Pg}(h:G3 w m c r (Pd g) k D):∃x b d,k<=b/\In k b x/\G3 w m c r (g x) b d:=by
 have h:=(h.mrk.read a).2;obtain⟨x,b,d,z,h⟩:=inm a h;obtain⟨t,u,C,h⟩:=ixp a [123] h;obtain⟨l,v,B,y,s,i,h⟩:=mV a e o .fd h;obtain⟨A,E,j,h⟩:=ixp a [125] h;exact⟨_,_,_,am,MI ((s.down am).up j) i,h.bd⟩
def AzG(b:(w m).1=5)(t:QY m n c)(u:n<900000000){g:AT->Pg}(h:G3 w m c r (Pk g) k D):∃x a d,k<=a/\In k a x/\G3 w m c r (g x) a d:=by
 obtain⟨a,d,y,h⟩:=ixp b [40] h.mrk;rcases h.ifW with⟨_,h⟩ | ⟨_,h⟩
 ·obtain⟨e,s,j,h⟩:=ixp b [41] h;exact⟨_,_,_,am,in0 am,h.bd⟩
 ·obtain⟨l,e,s,j,v,o,h⟩:=mV b t u .pa h;obtain⟨A,z,i,h⟩:=ixp b [41] h;exact⟨_,_,_,am,MI ((v.down am).up i) o,h.bd⟩
def AkT(e:(w m).1=5)(i:QY m n c)(o:n<900000000){g:AT->Pg}(h:G3 w m c r (eO g) k D):∃x d j,k<=d/\In k d x/\G3 w m c r (g x) d j:=by
 have h:=(h.mrk.read e).2;obtain⟨x,d,j,B,h⟩:=inm e h;obtain⟨a,v,y,G,l,h⟩:=AzG e i o h;obtain⟨t,E,F,A,u,h⟩:=iwr e h;obtain⟨b,C,z,H,s,h⟩:=ibk i h;exact⟨_,_,_,am,MI (Gp (l.down am) (Gp u s.KF)),h.bd⟩
def Lt{kd:Nat}{tx:List UInt8}{us:List AT}(h:G3 w m c r (Pg.nod kd tx f us) k D)(a:oks f k us)(b:us.length<1000000000:=by simp):In f r.2.1 r.1.1:=by
 have e:=h.bd.ret;rw[e];exact MI a b
def ilv4(g:(w m).1=5)(b:QY m n c)(h:G3 w m c r wM k D):In k r.2.1 r.1.1:=by
 obtain⟨x,o,t,j,a,h⟩:=iex b h.mrk;rcases h.ifW with⟨_,h⟩ | ⟨_,h⟩
 ·have h:=(h.rd g).2;obtain⟨y,i,s,l,d,h⟩:=iex b h;exact Lt h (Gp a (d.down am).KF)
 ·have e:=h.ret;rw[e];exact a
def BZP(a:(w m).1=5)(s:QY m n c)(y:n<900000000)(h:G3 w m c r eQ k D):In k r.2.1 r.1.1:=by
 rcases h.mrk.ifK with⟨_,h⟩ | ⟨_,h⟩
 ·exact Lt (h.rd a).2 (show k<=k+1 by omega)
 rcases h.ifW with⟨_,h⟩ | ⟨_,h⟩
 ·exact Lt (h.rd a).2 (show k<=k+1 by omega)
 have h:=h.look;by_cases d:(w k).1=0
 ·by_cases u:(w (k+1)).2=[40]
  ·rw[if_pos ⟨d,u⟩] at h;obtain⟨l,j,i,o,b,t,h⟩:=AkV a s y (h.rd a).2;exact Lt h (b.down am) t
  ·rw[if_neg (λx=>u x.2),if_pos d] at h
   obtain⟨x,j,i,o,b,h⟩:=xA a s h;have e:=h.ret;rw[e];exact b
 ·rw[if_neg (λx=>d x.1),if_neg d] at h
  rcases iac a [91] h with h | h
  ·obtain⟨l,j,i,o,b,t,h⟩:=mV a s y .ex h;obtain⟨A,z,g,h⟩:=ixp a [93] h;exact Lt h ((b.down am).up g) t
  ·rcases iac a Oy h with h | h
   ·obtain⟨j,i,o,h⟩:=ixp a [40] h;obtain⟨v,A,z,g,B,h⟩:=BZO a h;obtain⟨F,E,C,h⟩:=ixp a [41] h;exact Lt h ((B.down am).up C).KF
   ·rcases iac a [40] h with h | h
    ·obtain⟨x,j,i,o,b,h⟩:=iex s h;obtain⟨A,z,g,h⟩:=ixp a [41] h;have e:=h.ret;rw[e];exact(b.down am).up g
    ·obtain⟨x,b,h⟩:=xE h.rep;have e:=h.ret;rw[e];exact b
def ist(a:(w m).1=5)(d:QY m n c)(R:n<900000000)(h:G3 w m c r (prog .st) k D):In k r.2.1 r.1.1:=by
 rcases h.ifW with⟨_,h⟩ | ⟨_,h⟩
 ·have h:=(h.mrk.read a).2;obtain⟨x,A,E,I,h⟩:=inm a h;obtain⟨t,o,z,y,e,h⟩:=iwr a h;obtain⟨j,i,g,h⟩:=ixp a [61] h;obtain⟨v,C,F,s,G,h⟩:=iex d h;obtain⟨M,K,B,h⟩:=ixp a [59] h;exact Lt h (Gp (e.down am) ((G.down am).up B).KF)
 rcases h.ifW with⟨_,h⟩ | ⟨_,h⟩
 ·exact d.2 _ _ _ _ _ _ h.lst h.le h.ok
 rcases h.ifW with⟨_,h⟩ | ⟨_,h⟩
 ·have h:=(h.mrk.read a).2;obtain⟨u,A,E,I,O,h⟩:=iex d h;obtain⟨b,o,z,y,e,h⟩:=ibk d h;exact Lt h (Gp (O.down am) e.KF)
 rcases h.ifW with⟨_,h⟩ | ⟨_,h⟩
 ·have h:=(h.mrk.read a).2;obtain⟨x,A,E,I,h⟩:=inm a h;obtain⟨o,z,y,h⟩:=ixp a [61] h;obtain⟨u,j,i,g,H,h⟩:=iex d h;obtain⟨C,F,s,h⟩:=ixp a wTo h;obtain⟨v,M,K,B,Q,h⟩:=iex d h;obtain⟨b,T,U,V,S,h⟩:=ibk d h;exact Lt h (Gp ((H.down am).up s) (Gp Q S.KF))
 rcases h.ifW with⟨_,h⟩ | ⟨_,h⟩
 ·have h:=(h.mrk.read a).2.look;cases J:aM (w (k+1)) with
  |true=>
   rw[J,if_pos rfl] at h;obtain⟨x,o,z,y,e,h⟩:=iex d h;obtain⟨j,i,g,h⟩:=ixp a [59] h;exact Lt h ((e.down am).up g).KF
  |false=>
   rw[J,if_neg (by simp)] at h
   obtain⟨x,e,h⟩:=AUJ h;obtain⟨j,i,g,h⟩:=ixp a [59] h;exact Lt h ((e.down am).up g).KF
 rcases h.ifW with⟨_,h⟩ | ⟨_,h⟩
 ·have h:=(h.mrk.read a).2;obtain⟨x,o,z,y,e,h⟩:=iex d h;obtain⟨j,i,g,h⟩:=ixp a [59] h;exact Lt h ((e.down am).up g).KF
 rcases h.ifK with⟨_,h⟩ | ⟨_,h⟩
 ·have h:=h.mrk.look;by_cases L:(w (k+1)).2=[40]
  ·rw[if_pos L] at h;obtain⟨l,j,i,g,H,P,h⟩:=AkV a d R (h.rd a).2;obtain⟨C,F,s,h⟩:=ixp a [59] h;exact Lt h ((H.down am).up s) P
  ·rw[if_neg L] at h;obtain⟨x,o,z,y,e,h⟩:=xA a d h;obtain⟨j,i,g,h⟩:=ixp a [61] h;obtain⟨v,C,F,s,G,h⟩:=iex d h;obtain⟨M,K,B,h⟩:=ixp a [59] h;exact Lt h (Gp e ((G.down am).up B).KF)
 obtain⟨v,A,E,W,I,N⟩:=h.rep.mrk.call d.1;exact Lt N (show k<=A by omega)
def vV(g:(w m).1=5):∀n,n<900000000->QY m n (runN w n)
 |0,_=>⟨Gt g 0,λx k D v E J h=>by cases h⟩
 |n+1,hn=>by
  have d:=vV g n am
  refine⟨Gt g (n+1),λx k D v E J s Q P=>?_⟩
  have h:G3 w m (runN w n) (v,E,J) (prog x) k D:=⟨s,Q,P⟩;have Z:k<=E:=(Gt g (n+1) x k D _ s Q P).1;clear s;have F:n<900000000:=am
  cases x with
  |ex L=>
   show In k E v.1
   have M:∀L,G3 w m (runN w n) (v,E,J) (Pg.mrk λf=>Pg.cl (.ex (L+1)) λx=>Pg.lst (.lp L f x)) k D->In k E v.1:=by
    intro L h;obtain⟨x,j,C,B,a,h⟩:=iex d h.mrk;exact d.2 _ _ _ _ _ _ h.lst h.le h.ok a
   by_cases G:L=3
   ·subst G;rcases iac g Ox h.mrk with h | h
    ·obtain⟨x,j,C,B,a,h⟩:=iex d h;exact Lt h (a.down am).KF
    ·exact ilv4 g d h
   ·by_cases S:L=7
    ·subst S;rcases iac g [45] h.mrk with h | h
     ·obtain⟨x,j,C,B,a,h⟩:=iex d h;exact Lt h (a.down am).KF
     ·exact BZP g d F h
    ·have e:prog (.ex L)=Pg.mrk λf=>Pg.cl (.ex (L+1)) λx=>Pg.lst (.lp L f x):=by
      rw[prog]
      ·exact λh=>G h
      ·exact λh=>S h
     rw[e] at h;exact M L h
  |lp L f x=>
   intro R;rcases G3.ifW (show G3 w m (runN w n) (v,E,J) (Pg.ifW (opL L) (Pg.rd λo=>Pg.cl (.ex (L+1)) λy=>Pg.bd 29 o f false [x,y] λz=>Pg.lst (.lp L f z)) (.ret (x,[]))) k D from h) with⟨_,h⟩ | ⟨_,h⟩
   ·have h:=(h.rd g).2;obtain⟨y,j,C,B,a,h⟩:=iex d h;have h:=h.bd;exact d.2 _ _ _ _ _ _ h.lst h.le h.ok (MI (Gp R (a.down am).KF))
   ·have e:=h.ret;cases e;exact R
  |tl e l=>
   intro U;rcases iac g [44] h with h | h
   ·obtain⟨x,j,C,B,a,h⟩:=AkU g d e h;obtain⟨t,A⟩:=d.2 _ _ _ _ _ _ h.lst h.le h.ok (by simp;omega)
    exact⟨t,λlo i=>A lo (i.snoc (by have:=a.1;omega) a.2.1 a.2.2)⟩
   ·have e:=h.ret;cases e;exact⟨show l.length<1000000000 by omega,λlo i=>i⟩
  |bk=>
   show In k E v.1;rcases iac g [123] h.mrk with h | h
   ·obtain⟨u,j,C,H,B,O⟩:=h.call d.1;obtain⟨t,A⟩:=d.2 _ _ _ _ _ _ H h.le h.ok (by simp;omega)
    obtain⟨T,D3,W,h⟩:=ixp g [125] O;exact Lt h ((A k (show k<=k+1 by omega)).up W) t
   ·have e:=h.rep.bd.ret;cases e;exact in0 (Ai _)
  |sts l=>
   intro U;rcases h.ifW with⟨_,h⟩ | ⟨_,h⟩
   ·have e:=h.ret;cases e;exact⟨show l.length<1000000000 by omega,λlo i=>i⟩
   ·rcases h.ifK with⟨_,h⟩ | ⟨_,h⟩
    ·have e:=h.ret;cases e;exact⟨show l.length<1000000000 by omega,λlo i=>i⟩
    ·obtain⟨u,j,C,H,B,h⟩:=h.cl d.1;have a:In k j u.1:=d.2 _ _ _ _ _ _ H Q P;obtain⟨t,A⟩:=d.2 _ _ _ _ _ _ h.lst h.le h.ok (by simp;omega)
     exact⟨t,λlo i=>A lo (i.snoc a.1 a.2.1 a.2.2)⟩
  |st=>exact ist g d F h
  |br=>
   show In k E v.1;have h:=(h.mrk.read g).2;obtain⟨u,j,C,B,a,h⟩:=iex d h;obtain⟨b,T,D3,W,K,h⟩:=ibk d h;rcases iac g Wy h with h | h
   ·rcases h.ifW with⟨_,h⟩ | ⟨_,h⟩
    ·obtain⟨o,V,X,H,Y,h5⟩:=h.cl d.1;have I:In (T+1) V o.1:=d.2 _ _ _ _ _ _ H h.le h.ok;exact Lt h5 (Gp (a.down am) (Gp K (I.down am).KF))
    ·obtain⟨o,V,X,Y,I,h⟩:=ibk d h;exact Lt h (Gp (a.down am) (Gp K (I.down am).KF))
   ·obtain⟨o,I,h⟩:=AUJ h;exact Lt h (Gp (a.down am) (Gp K I.KF))
  |sk f=>trivial
  |sp=>trivial
  |pg l=>
   intro U;rcases h.ifK with⟨_,h⟩ | ⟨_,h⟩
   ·have e:=h.ret;cases e;exact⟨show l.length<1000000000 by omega,λlo i=>i⟩
   ·rcases h.ifW with⟨_,h⟩ | ⟨_,h⟩
    ·obtain⟨x,j,C,B,a,h⟩:=mU g d F h;obtain⟨t,A⟩:=d.2 _ _ _ _ _ _ h.lst h.le h.ok (by simp;omega)
     exact⟨t,λlo i=>A lo (i.snoc a.1 a.2.1 a.2.2)⟩
    ·rcases h.ifW with⟨_,h⟩ | ⟨_,h⟩
     ·obtain⟨x,j,C,B,a,h⟩:=AkT g d F h;obtain⟨t,A⟩:=d.2 _ _ _ _ _ _ h.lst h.le h.ok (by simp;omega)
      exact⟨t,λlo i=>A lo (i.snoc a.1 a.2.1 a.2.2)⟩
     ·have h:=(h.rep.mrk.read g).2;obtain⟨u,j,C,H,B,O⟩:=h.call d.1;have G:=O.bd;have a:In k j (.mk 1 [] k j false []):=in0 am
      obtain⟨t,A⟩:=d.2 _ _ _ _ _ _ G.lst G.le G.ok (by simp;omega)
      exact⟨t,λlo i=>A lo (i.snoc a.1 a.2.1 a.2.2)⟩
def vD(g:(w m).1=5):∀n a k D v d j,n<900000000->runN w n (.pg a) k D=some (v,d,j)->k<=m->Dok k D->(w d).1=5
 |0,a,k,D,v,d,j,_,h,_,_=>by cases h
 |n+1,a,k,D,v,d,j,G,i,F,B=>by
  have H:=Gt g n;have h:G3 w m (runN w n) (v,d,j) (prog (.pg a)) k D:=⟨i,F,B⟩;have b:∀{a k D},G3 w m (runN w n) (v,d,j) (Pg.lst (.pg a)) k D->(w d).1=5:=λh=>vD g n _ _ _ _ _ _ am h.lst h.le h.ok
  have o:n<900000000:=am
  ·have s:=vV g n o;rcases h.ifK with⟨A,h⟩ | ⟨_,h⟩
   ·have e:=h.ret;cases e;exact A
   ·rcases h.ifW with⟨_,h⟩ | ⟨_,h⟩
    ·obtain⟨x,t,z,y,E,h⟩:=mU g s o h;exact b h
    ·rcases h.ifW with⟨_,h⟩ | ⟨_,h⟩
     ·obtain⟨x,t,z,y,E,h⟩:=AkT g s o h;exact b h
     ·have h:=(h.rep.mrk.read g).2;obtain⟨u,t,z,I,y,C⟩:=h.call s.1;exact b C.bd
end
end Go.Abs.Z
