/- A part of the proof: W3 G7 W4 D4 D5 D6. -/
import Derived.Test.YtgkkkgbknfhbaaaGreatDoorKay

set_option linter.all false
namespace Go.Abs.Z
noncomputable section
open PV
open Go.Proofs Go.RowKit
variable{e:CE}{z1:Int}{H T O:Sto}{g n a b c m1 m m2 m3 m4 m5:Nat}{Ds Ds1 Ds2 Ds3 ab:List Dg}{d1 d2:Dg}{x:FF}
def R100:Rn 267 a267:=rn
def r100{d e:Dg}(f:IntKind.i64.wrap ((d.a:Int) - (e.a:Int))=z1):EvE 267 [d.pv,e.pv] (I z1):=
 rule R100 [sp 7 (XZ f)]
def R157:Rn 314 p8:=rn
def r157(d:LL p8 0 [(0,arr H.length g 0 n 5),(1,N a),(2,N b),(3,N c),(10,I 0)] (aS H T g Ds) (.exit 0) [] (aS H T g Ds1)):E 314 [.arr H.length g 0 n 5,N a,N b,N c,.func 267 [] []] (aS H T g Ds) (.tuple []) (aS H T g Ds1):=
 rule R157 [sl 1 [0,1,2,3,10] d]
def Vk(p:(m1:Int) < (c:Int))(j:a<2000000000)(d:m1<2000000000)(i:b<2000000000)(f:(b+m1) < n)(k:Ds1[b+m1]?=some d1)(h:(a+m1) < n)(q:Ds1[a+m1]?=some d2)(r:(a+m1) < Ds1.length)(o:(b+m1) < ((Ds1.set (a+m1) d1)).length)(l:LL p8 0 [(0,arr H.length g 0 n 5),(1,N a),(2,N b),(3,N c),(10,N (m1+1))] (aS H T g ((Ds1.set (a+m1) d1).set (b+m1) d2)) e x O):LL p8 0 [(0,arr H.length g 0 n 5),(1,N a),(2,N b),(3,N c),(10,N m1)] (aS H T g Ds1) e x O:=
 BC [0,1,2,3,10] [sp 2 (AZ .i64 p),sp 4 (AO a m1 j d),sp 3 (AO b m1 i d),sp 3 (AO b m1 i d),sp 0 (Kb (id:=H.length) (g:=g) f),st 0 (QS (aS H T g Ds1) (ldA k)),sp 3 (AO a m1 j d),sp 0 (Kb (id:=H.length) (g:=g) h),st 0 (QS (aS H T g Ds1) (ldA q)),sp 0 (Kb (id:=H.length) (g:=g) h),st 0 (stA r:Bt pur run (.w (.st 5)) [.aptr H.length g 5 (a+m1) 0,d1.pv] (aS H T g Ds1) [] (aS H T g (Ds1.set (a+m1) d1))),sp 0 (Kb (id:=H.length) (g:=g) f),st 0 (stA o:Bt pur run (.w (.st 5)) [.aptr H.length g 5 (b+m1) 0,d2.pv] (aS H T g (Ds1.set (a+m1) d1)) [] (aS H T g ((Ds1.set (a+m1) d1).set (b+m1) d2))),sp 1 (AO m1 1 d)] l
def Y7(d:¬(m1:Int) < (c:Int)):LL p8 0 [(0,arr H.length g 0 n 5),(1,N a),(2,N b),(3,N c),(10,N m1)] (aS H T g Ds1) (.exit 0) [] (aS H T g Ds1):=
 Bw [] [sp 2 (Bh .i64 d)]
def R154:Rn 307 iB:=rn
def r154(l:a<=m)(d:m<2000000000)(k:m<=b)(i:b<2000000000)(j:LL iB 0 [(0,arr H.length g 0 n 5),(2,N m),(4,func 267 [] []),(10,N (m - a)),(11,N (b - m))] (aS H T g Ds) (.exit 0) [(0,arr H.length g 0 n 5),(2,N m),(4,func 267 [] []),(10,N m1)] (aS H T g Ds1))(h:m1<=m)(f:E 314 [.arr H.length g 0 n 5,N (m - m1),N m,N m1,.func 267 [] []] (aS H T g Ds1) (.tuple []) (aS H T g Ds2)):E 307 [.arr H.length g 0 n 5,N a,N m,N b,.func 267 [] []] (aS H T g Ds) (.tuple []) (aS H T g Ds2):=
 rule R154 [sp 2 (Fb m a l d),sp 3 (Fb b m k i),sl 1 [0,2,4,10,11] j,sp 3 (Fb m m1 h d),st 3 (oW f)]
def Y8(d:(m1:Int)=(m2:Int)):LL iB 0 [(0,arr H.length g 0 n 5),(2,N m),(4,func 267 [] []),(10,N m1),(11,N m2)] (aS H T g Ds1) (.exit 0) [(0,arr H.length g 0 n 5),(2,N m),(4,func 267 [] []),(10,N m1)] (aS H T g Ds1):=
 Bw [0,2,4,10] [sp 2 (Dr .i64 d)]
def Vm(h:(m1:Int)≠(m2:Int))(c2:(m1:Int) > (m2:Int))(l:m1<=m)(f:m<2000000000)(d:E 314 [.arr H.length g 0 n 5,N (m - m1),N m,N m2,.func 267 [] []] (aS H T g Ds1) (.tuple []) (aS H T g Ds2))(k:m2<=m1)(i:m1<2000000000)(j:LL iB 0 [(0,arr H.length g 0 n 5),(2,N m),(4,func 267 [] []),(10,N (m1 - m2)),(11,N m2)] (aS H T g Ds2) e x O):LL iB 0 [(0,arr H.length g 0 n 5),(2,N m),(4,func 267 [] []),(10,N m1),(11,N m2)] (aS H T g Ds1) e x O:=
 BC [0,2,4,10,11] [sp 2 (C8 .i64 h),sp 3 (CF .i64 c2),sp 4 (Fb m m1 l f),st 3 (oW d),sp 2 (Fb m1 m2 k i)] j
def Vl(i:(m1:Int)≠(m2:Int))(c2:¬(m1:Int) > (m2:Int))(o:m1<=m)(f:m<2000000000)(d:m2<2000000000)(j:m1<=(m+m2))(l:(m+m2) < 2000000000)(h:E 314 [.arr H.length g 0 n 5,N (m - m1),N ((m+m2) - m1),N m1,.func 267 [] []] (aS H T g Ds1) (.tuple []) (aS H T g Ds2))(p:m1<=m2)(k:LL iB 0 [(0,arr H.length g 0 n 5),(2,N m),(4,func 267 [] []),(10,N m1),(11,N (m2 - m1))] (aS H T g Ds2) e x O):LL iB 0 [(0,arr H.length g 0 n 5),(2,N m),(4,func 267 [] []),(10,N m1),(11,N m2)] (aS H T g Ds1) e x O:=
 BC [0,2,4,10,11] [sp 2 (C8 .i64 i),sp 3 (Cz .i64 c2),sp 4 (Fb m m1 o f),sp 2 (AO m m2 f d),sp 1 (Fb (m+m2) m1 j l),st 2 (oW h),sp 2 (Fb m2 m1 p d)] k
def BYE:Rn 294 Qa:=rn
def BQ4(d:a<2000000000)(f:LL Qa 0 [(0,arr H.length g 0 n 5),(1,N a),(2,N b),(3,func 267 [] []),(8,N (a+1))] (aS H T g Ds) (.exit 0) [(1,N a)] (aS H T g Ds1)):E 294 [.arr H.length g 0 n 5,N a,N b,.func 267 [] []] (aS H T g Ds) (.tuple []) (aS H T g Ds1):=
 rule BYE [sp 1 (AO a 1 d),sl 1 [0,1,2,3,8] f]
def Vx(f:(m1:Int) < (b:Int))(i:LL Qa 1 [(0,arr H.length g 0 n 5),(1,N a),(2,N b),(3,func 267 [] []),(8,N m1),(9,N m1)] (aS H T g Ds1) (.exit 2) [(0,arr H.length g 0 n 5),(1,N a),(2,N b),(3,func 267 [] []),(8,N m1),(9,N m2)] (aS H T g Ds2))(d:m1<2000000000)(h:LL Qa 0 [(0,arr H.length g 0 n 5),(1,N a),(2,N b),(3,func 267 [] []),(8,N (m1+1))] (aS H T g Ds2) e x O):LL Qa 0 [(0,arr H.length g 0 n 5),(1,N a),(2,N b),(3,func 267 [] []),(8,N m1)] (aS H T g Ds1) e x O:=
 BC [0,1,2,3,8] [sp 2 (AZ .i64 f),sl 3 [0,1,2,3,8,9] i,sp 1 (AO m1 1 d)] h
def Pf(d:¬(m1:Int) < (b:Int)):LL Qa 0 [(0,arr H.length g 0 n 5),(1,N a),(2,N b),(3,func 267 [] []),(8,N m1)] (aS H T g Ds1) (.exit 0) [(1,N a)] (aS H T g Ds1):=
 Bw [1] [sp 2 (Bh .i64 d)]
def Zf(d:¬(m2:Int) > (a:Int)):LL Qa 1 [(0,arr H.length g 0 n 5),(1,N a),(2,N b),(3,func 267 [] []),(8,N m1),(9,N m2)] (aS H T g Ds2) (.exit 2) [(0,arr H.length g 0 n 5),(1,N a),(2,N b),(3,func 267 [] []),(8,N m1),(9,N m2)] (aS H T g Ds2):=
 Bw [0,1,2,3,8,9] [sp 2 (Cz .i64 d)]
section
variable(G:(m2:Int) > (a:Int))(D:m2<n)(g1:Ds2[m2]?=some d1)(A:1<=m2)(z:m2<2000000000)(F:(m2 - 1) < n)(Y:Ds2[m2 - 1]?=some d2)(K:EvE 267 [d1.pv,d2.pv] (I z1))
include G D g1 A z F Y K
def AjS:List Stp:=[sp 2 (CF .i64 G),sq 4 (Kb (id:=H.length) (g:=g) D),sg 0 (QS (aS H T g Ds2) (ldA g1)),sq 2 (Fb m2 1 A z),sq 0 (Kb (id:=H.length) (g:=g) F),sg 0 (QS (aS H T g Ds2) (ldA Y)),sg 0 (KE K:Bt pur run (.w .DC) [.func 267 [] [],d1.pv,d2.pv] (aS H T g Ds2) [some (I z1)] (aS H T g Ds2))]
theorem Vw(c2:z1<0)(f:m2<Ds2.length)(d:(m2 - 1) < ((Ds2.set m2 d2)).length)(h:LL Qa 1 [(0,arr H.length g 0 n 5),(1,N a),(2,N b),(3,func 267 [] []),(8,N m1),(9,N (m2 - 1))] (aS H T g ((Ds2.set m2 d2).set (m2 - 1) d1)) e x O):LL Qa 1 [(0,arr H.length g 0 n 5),(1,N a),(2,N b),(3,func 267 [] []),(8,N m1),(9,N m2)] (aS H T g Ds2) e x O:=
 BC [0,1,2,3,8,9] (AjS (H:=H) (T:=T) (g:=g) G D g1 A z F Y K++[sq 0 (AZ .i64 c2),sp 6 (Fb m2 1 A z),sp 2 (Fb m2 1 A z),sp 0 (Kb (id:=H.length) (g:=g) F),st 0 (QS (aS H T g Ds2) (ldA Y)),sp 2 (Kb (id:=H.length) (g:=g) D),st 0 (QS (aS H T g Ds2) (ldA g1)),sp 0 (Kb (id:=H.length) (g:=g) D),st 0 (stA f:Bt pur run (.w (.st 5)) [.aptr H.length g 5 m2 0,d2.pv] (aS H T g Ds2) [] (aS H T g (Ds2.set m2 d2))),sp 0 (Kb (id:=H.length) (g:=g) F),st 0 (stA d:Bt pur run (.w (.st 5)) [.aptr H.length g 5 (m2 - 1) 0,d1.pv] (aS H T g (Ds2.set m2 d2)) [] (aS H T g ((Ds2.set m2 d2).set (m2 - 1) d1))),sp 1 (Fb m2 1 A z)]) h
theorem Ze(c2:¬z1<0):LL Qa 1 [(0,arr H.length g 0 n 5),(1,N a),(2,N b),(3,func 267 [] []),(8,N m1),(9,N m2)] (aS H T g Ds2) (.exit 2) [(0,arr H.length g 0 n 5),(1,N a),(2,N b),(3,func 267 [] []),(8,N m1),(9,N m2)] (aS H T g Ds2):=
 Bw [0,1,2,3,8,9] (AjS (H:=H) (T:=T) (g:=g) G D g1 A z F Y K++[sq 0 (Bh .i64 c2)])
end
def QX:Rn 295 GJ:=rn
section
variable(D:a<=m)(A:m<2000000000)
include D A
theorem AVF(f:(((m - a):Nat):Int)=1)(h:LL GJ 0 [(0,arr H.length g 0 n 5),(1,N a),(2,N m),(3,N b),(4,func 267 [] []),(10,N m),(11,N b)] (aS H T g Ds) (.exit 0) [(0,arr H.length g 0 n 5),(1,N a),(2,N m),(3,N b),(4,func 267 [] []),(10,N m1)] (aS H T g Ds))(d:LL GJ 1 [(0,arr H.length g 0 n 5),(1,N a),(2,N m),(3,N b),(4,func 267 [] []),(10,N m1),(13,N a)] (aS H T g Ds) (.exit 2) [(0,arr H.length g 0 n 5),(1,N a),(2,N m),(3,N b),(4,func 267 [] []),(10,N m1)] (aS H T g Ds1)):E 295 [.arr H.length g 0 n 5,N a,N m,N b,.func 267 [] []] (aS H T g Ds) (.tuple []) (aS H T g Ds1):=
 rule QX [sp 2 (Fb m a D A),sp 0 (Bz .i64 f),sl 5 [0,1,2,3,4,10,11] h,sl 2 [0,1,2,3,4,10,13] d]
section
variable(G:(((m - a):Nat):Int)≠1)(z:m<=b)(F:b<2000000000)
include G z F
def AjR:List Stp:=[sp 2 (Fb m a D A),sp 0 (Bb .i64 G),sp 3 (Fb b m z F)]
theorem AVE(c2:(((b - m):Nat):Int)=1)(f:LL GJ 2 [(0,arr H.length g 0 n 5),(1,N a),(2,N m),(3,N b),(4,func 267 [] []),(14,N a),(15,N m)] (aS H T g Ds) (.exit 4) [(0,arr H.length g 0 n 5),(1,N a),(2,N m),(3,N b),(4,func 267 [] []),(14,N m1)] (aS H T g Ds))(d:LL GJ 3 [(0,arr H.length g 0 n 5),(1,N a),(2,N m),(3,N b),(4,func 267 [] []),(14,N m1),(17,N m)] (aS H T g Ds) (.exit 6) [(0,arr H.length g 0 n 5),(1,N a),(2,N m),(3,N b),(4,func 267 [] []),(14,N m1)] (aS H T g Ds1)):E 295 [.arr H.length g 0 n 5,N a,N m,N b,.func 267 [] []] (aS H T g Ds) (.tuple []) (aS H T g Ds1):=
 rule QX (AjR D A G z F++[sp 0 (Bz .i64 c2),sl 5 [0,1,2,3,4,14,15] f,sl 2 [0,1,2,3,4,14,17] d])
section
variable(c2:(((b - m):Nat):Int)≠1)(U:a<2000000000)(M:(a+b) < 2000000000)(W:((a+b) / 2) < 2000000000)
include c2 U M W
def kT:List Stp:=AjR D A G z F++[sp 0 (Bb .i64 c2),sp 3 (AO a b U F),sp 0 (AzO (a+b) M),sp 0 (AqD (a+b) M),sp 0 (AzP ((a+b) / 2) W),sp 3 (AO ((a+b) / 2) m W A)]
theorem AVD(q:(m:Int) > ((((a+b) / 2):Nat):Int))(s:b<=(((a+b) / 2)+m))(h:(((a+b) / 2)+m) < 2000000000)(d:1<=(((a+b) / 2)+m))(k:LL GJ 4 [(0,arr H.length g 0 n 5),(1,N a),(2,N m),(3,N b),(4,func 267 [] []),(18,N ((a+b) / 2)),(19,N (((a+b) / 2)+m)),(20,N ((((a+b) / 2)+m) - b)),(21,N ((a+b) / 2)),(22,N ((((a+b) / 2)+m) - 1))] (aS H T g Ds) (.exit 8) [(0,arr H.length g 0 n 5),(1,N a),(2,N m),(3,N b),(4,func 267 [] []),(18,N ((a+b) / 2)),(19,N (((a+b) / 2)+m)),(20,N m1)] (aS H T g Ds))(f:m1<=(((a+b) / 2)+m))(j:(m1:Int) < (m:Int))(l:¬(m:Int) < ((((((a+b) / 2)+m) - m1):Nat):Int))(o:(a:Int) < (m1:Int))(t:¬(m1:Int) < ((((a+b) / 2):Nat):Int))(p:((((a+b) / 2):Nat):Int) < ((((((a+b) / 2)+m) - m1):Nat):Int))(r:((((((a+b) / 2)+m) - m1):Nat):Int) < (b:Int))(i:E 295 [.arr H.length g 0 n 5,N ((a+b) / 2),N ((((a+b) / 2)+m) - m1),N b,.func 267 [] []] (aS H T g Ds) (.tuple []) (aS H T g Ds1)):E 295 [.arr H.length g 0 n 5,N a,N m,N b,.func 267 [] []] (aS H T g Ds) (.tuple []) (aS H T g Ds1):=
 rule QX (kT D A G z F c2 U M W++[sp 5 (CF .i64 q),sp 3 (Fb (((a+b) / 2)+m) b s h),sp 4 (Fb (((a+b) / 2)+m) 1 d h),sl 1 [0,1,2,3,4,18,19,20,21,22] k,sp 2 (Fb (((a+b) / 2)+m) m1 f h),sp 3 (AZ .i64 j),sq 3 (Bh .i64 l),sp 4 (AZ .i64 o),sq 3 (Bh .i64 t),sp 4 (AZ .i64 p),sq 3 (AZ .i64 r),st 7 (oW i)])
section
variable(c3:¬(m:Int) > ((((a+b) / 2):Nat):Int))(V:1<=(((a+b) / 2)+m))(X:(((a+b) / 2)+m) < 2000000000)(L1:LL GJ 4 [(0,arr H.length g 0 n 5),(1,N a),(2,N m),(3,N b),(4,func 267 [] []),(18,N ((a+b) / 2)),(19,N (((a+b) / 2)+m)),(20,N a),(21,N m),(22,N ((((a+b) / 2)+m) - 1))] (aS H T g Ds) (.exit 8) [(0,arr H.length g 0 n 5),(1,N a),(2,N m),(3,N b),(4,func 267 [] []),(18,N ((a+b) / 2)),(19,N (((a+b) / 2)+m)),(20,N m1)] (aS H T g Ds))(J:m1<=(((a+b) / 2)+m))(c4:¬(m1:Int) < (m:Int))(c5:(a:Int) < (m1:Int))
include c3 V X L1 J c4 c5
def AjQ:List Stp:=kT D A G z F c2 U M W++[sp 5 (Cz .i64 c3),sp 6 (Fb (((a+b) / 2)+m) 1 V X),sl 1 [0,1,2,3,4,18,19,20,21,22] L1,sp 2 (Fb (((a+b) / 2)+m) m1 J X),sp 3 (Bh .i64 c4),sp 8 (AZ .i64 c5)]
theorem AVC(f:(m1:Int) < ((((a+b) / 2):Nat):Int))(d:E 295 [.arr H.length g 0 n 5,N a,N m1,N ((a+b) / 2),.func 267 [] []] (aS H T g Ds) (.tuple []) (aS H T g Ds1))(h:¬((((a+b) / 2):Nat):Int) < ((((((a+b) / 2)+m) - m1):Nat):Int)):E 295 [.arr H.length g 0 n 5,N a,N m,N b,.func 267 [] []] (aS H T g Ds) (.tuple []) (aS H T g Ds1):=
 rule QX (AjQ D A G z F c2 U M W c3 V X L1 J c4 c5++[sq 3 (AZ .i64 f),st 7 (oW d),sp 2 (Bh .i64 h)])
theorem AVB(f:¬(m1:Int) < ((((a+b) / 2):Nat):Int))(d:¬((((a+b) / 2):Nat):Int) < ((((((a+b) / 2)+m) - m1):Nat):Int)):E 295 [.arr H.length g 0 n 5,N a,N m,N b,.func 267 [] []] (aS H T g Ds) (.tuple []) (aS H T g Ds):=
 rule QX (AjQ D A G z F c2 U M W c3 V X L1 J c4 c5++[sq 3 (Bh .i64 f),sp 4 (Bh .i64 d)])
end
section
variable(c3:(m:Int) > ((((a+b) / 2):Nat):Int))(V:b<=(((a+b) / 2)+m))(X:(((a+b) / 2)+m) < 2000000000)(J:1<=(((a+b) / 2)+m))(L1:LL GJ 4 [(0,arr H.length g 0 n 5),(1,N a),(2,N m),(3,N b),(4,func 267 [] []),(18,N ((a+b) / 2)),(19,N (((a+b) / 2)+m)),(20,N ((((a+b) / 2)+m) - b)),(21,N ((a+b) / 2)),(22,N ((((a+b) / 2)+m) - 1))] (aS H T g Ds) (.exit 8) [(0,arr H.length g 0 n 5),(1,N a),(2,N m),(3,N b),(4,func 267 [] []),(18,N ((a+b) / 2)),(19,N (((a+b) / 2)+m)),(20,N m1)] (aS H T g Ds))(aa:m1<=(((a+b) / 2)+m))(c4:(m1:Int) < (m:Int))(c5:(m:Int) < ((((((a+b) / 2)+m) - m1):Nat):Int))(K:E 307 [.arr H.length g 0 n 5,N m1,N m,N ((((a+b) / 2)+m) - m1),.func 267 [] []] (aS H T g Ds) (.tuple []) (aS H T g Ds1))
include c3 V X J L1 aa c4 c5 K
def rH:List Stp:=kT D A G z F c2 U M W++[sp 5 (CF .i64 c3),sp 3 (Fb (((a+b) / 2)+m) b V X),sp 4 (Fb (((a+b) / 2)+m) 1 J X),sl 1 [0,1,2,3,4,18,19,20,21,22] L1,sp 2 (Fb (((a+b) / 2)+m) m1 aa X),sp 3 (AZ .i64 c4),sq 3 (AZ .i64 c5),st 7 (oW K)]
section
variable(c6:(a:Int) < (m1:Int))(c7:(m1:Int) < ((((a+b) / 2):Nat):Int))(h2:E 295 [.arr H.length g 0 n 5,N a,N m1,N ((a+b) / 2),.func 267 [] []] (aS H T g Ds1) (.tuple []) (aS H T g Ds2))(c8:((((a+b) / 2):Nat):Int) < ((((((a+b) / 2)+m) - m1):Nat):Int))
include c6 c7 h2 c8
def AjP:List Stp:=rH D A G z F c2 U M W c3 V X J L1 aa c4 c5 K++[sp 2 (AZ .i64 c6),sq 3 (AZ .i64 c7),st 7 (oW h2),sp 2 (AZ .i64 c8)]
theorem AVA(d:((((((a+b) / 2)+m) - m1):Nat):Int) < (b:Int))(f:E 295 [.arr H.length g 0 n 5,N ((a+b) / 2),N ((((a+b) / 2)+m) - m1),N b,.func 267 [] []] (aS H T g Ds2) (.tuple []) (aS H T g Ds3)):E 295 [.arr H.length g 0 n 5,N a,N m,N b,.func 267 [] []] (aS H T g Ds) (.tuple []) (aS H T g Ds3):=
 rule QX (AjP D A G z F c2 U M W c3 V X J L1 aa c4 c5 K c6 c7 h2 c8++[sq 3 (AZ .i64 d),st 7 (oW f)])
theorem AV9(d:¬((((((a+b) / 2)+m) - m1):Nat):Int) < (b:Int)):E 295 [.arr H.length g 0 n 5,N a,N m,N b,.func 267 [] []] (aS H T g Ds) (.tuple []) (aS H T g Ds2):=
 rule QX (AjP D A G z F c2 U M W c3 V X J L1 aa c4 c5 K c6 c7 h2 c8++[sq 3 (Bh .i64 d)])
end
section
variable(c6:¬(a:Int) < (m1:Int))(c7:((((a+b) / 2):Nat):Int) < ((((((a+b) / 2)+m) - m1):Nat):Int))
include c6 c7
theorem AV8(f:((((((a+b) / 2)+m) - m1):Nat):Int) < (b:Int))(d:E 295 [.arr H.length g 0 n 5,N ((a+b) / 2),N ((((a+b) / 2)+m) - m1),N b,.func 267 [] []] (aS H T g Ds1) (.tuple []) (aS H T g Ds2)):E 295 [.arr H.length g 0 n 5,N a,N m,N b,.func 267 [] []] (aS H T g Ds) (.tuple []) (aS H T g Ds2):=
 rule QX (rH D A G z F c2 U M W c3 V X J L1 aa c4 c5 K++[sp 2 (Bh .i64 c6),sp 8 (AZ .i64 c7),sq 3 (AZ .i64 f),st 7 (oW d)])
theorem AV7(d:¬((((((a+b) / 2)+m) - m1):Nat):Int) < (b:Int)):E 295 [.arr H.length g 0 n 5,N a,N m,N b,.func 267 [] []] (aS H T g Ds) (.tuple []) (aS H T g Ds1):=
 rule QX (rH D A G z F c2 U M W c3 V X J L1 aa c4 c5 K++[sp 2 (Bh .i64 c6),sp 8 (AZ .i64 c7),sq 3 (Bh .i64 d)])
end
end
section
variable(c3:¬(m:Int) > ((((a+b) / 2):Nat):Int))(V:1<=(((a+b) / 2)+m))(X:(((a+b) / 2)+m) < 2000000000)(L1:LL GJ 4 [(0,arr H.length g 0 n 5),(1,N a),(2,N m),(3,N b),(4,func 267 [] []),(18,N ((a+b) / 2)),(19,N (((a+b) / 2)+m)),(20,N a),(21,N m),(22,N ((((a+b) / 2)+m) - 1))] (aS H T g Ds) (.exit 8) [(0,arr H.length g 0 n 5),(1,N a),(2,N m),(3,N b),(4,func 267 [] []),(18,N ((a+b) / 2)),(19,N (((a+b) / 2)+m)),(20,N m1)] (aS H T g Ds))(J:m1<=(((a+b) / 2)+m))(c4:(m1:Int) < (m:Int))(c5:(m:Int) < ((((((a+b) / 2)+m) - m1):Nat):Int))(K:E 307 [.arr H.length g 0 n 5,N m1,N m,N ((((a+b) / 2)+m) - m1),.func 267 [] []] (aS H T g Ds) (.tuple []) (aS H T g Ds1))
include c3 V X L1 J c4 c5 K
def rG:List Stp:=kT D A G z F c2 U M W++[sp 5 (Cz .i64 c3),sp 6 (Fb (((a+b) / 2)+m) 1 V X),sl 1 [0,1,2,3,4,18,19,20,21,22] L1,sp 2 (Fb (((a+b) / 2)+m) m1 J X),sp 3 (AZ .i64 c4),sq 3 (AZ .i64 c5),st 7 (oW K)]
section
variable(c6:(a:Int) < (m1:Int))(c7:(m1:Int) < ((((a+b) / 2):Nat):Int))(h2:E 295 [.arr H.length g 0 n 5,N a,N m1,N ((a+b) / 2),.func 267 [] []] (aS H T g Ds1) (.tuple []) (aS H T g Ds2))(c8:((((a+b) / 2):Nat):Int) < ((((((a+b) / 2)+m) - m1):Nat):Int))
include c6 c7 h2 c8
def AjO:List Stp:=rG D A G z F c2 U M W c3 V X L1 J c4 c5 K++[sp 2 (AZ .i64 c6),sq 3 (AZ .i64 c7),st 7 (oW h2),sp 2 (AZ .i64 c8)]
theorem AxA(d:((((((a+b) / 2)+m) - m1):Nat):Int) < (b:Int))(f:E 295 [.arr H.length g 0 n 5,N ((a+b) / 2),N ((((a+b) / 2)+m) - m1),N b,.func 267 [] []] (aS H T g Ds2) (.tuple []) (aS H T g Ds3)):E 295 [.arr H.length g 0 n 5,N a,N m,N b,.func 267 [] []] (aS H T g Ds) (.tuple []) (aS H T g Ds3):=
 rule QX (AjO D A G z F c2 U M W c3 V X L1 J c4 c5 K c6 c7 h2 c8++[sq 3 (AZ .i64 d),st 7 (oW f)])
theorem Ax9(d:¬((((((a+b) / 2)+m) - m1):Nat):Int) < (b:Int)):E 295 [.arr H.length g 0 n 5,N a,N m,N b,.func 267 [] []] (aS H T g Ds) (.tuple []) (aS H T g Ds2):=
 rule QX (AjO D A G z F c2 U M W c3 V X L1 J c4 c5 K c6 c7 h2 c8++[sq 3 (Bh .i64 d)])
end
section
variable(c6:¬(a:Int) < (m1:Int))(c7:((((a+b) / 2):Nat):Int) < ((((((a+b) / 2)+m) - m1):Nat):Int))
include c6 c7
theorem Ax8(f:((((((a+b) / 2)+m) - m1):Nat):Int) < (b:Int))(d:E 295 [.arr H.length g 0 n 5,N ((a+b) / 2),N ((((a+b) / 2)+m) - m1),N b,.func 267 [] []] (aS H T g Ds1) (.tuple []) (aS H T g Ds2)):E 295 [.arr H.length g 0 n 5,N a,N m,N b,.func 267 [] []] (aS H T g Ds) (.tuple []) (aS H T g Ds2):=
 rule QX (rG D A G z F c2 U M W c3 V X L1 J c4 c5 K++[sp 2 (Bh .i64 c6),sp 8 (AZ .i64 c7),sq 3 (AZ .i64 f),st 7 (oW d)])
theorem Ax7(d:¬((((((a+b) / 2)+m) - m1):Nat):Int) < (b:Int)):E 295 [.arr H.length g 0 n 5,N a,N m,N b,.func 267 [] []] (aS H T g Ds) (.tuple []) (aS H T g Ds1):=
 rule QX (rG D A G z F c2 U M W c3 V X L1 J c4 c5 K++[sp 2 (Bh .i64 c6),sp 8 (AZ .i64 c7),sq 3 (Bh .i64 d)])
end
end
end
end
end
def Zd(d:¬(m1:Int) < (m2:Int)):LL GJ 0 [(0,arr H.length g 0 n 5),(1,N a),(2,N m),(3,N b),(4,func 267 [] []),(10,N m1),(11,N m2)] (aS H T g Ds) (.exit 0) [(0,arr H.length g 0 n 5),(1,N a),(2,N m),(3,N b),(4,func 267 [] []),(10,N m1)] (aS H T g Ds):=
 Bw [0,1,2,3,4,10] [sp 2 (Bh .i64 d)]
section
variable(G:(m1:Int) < (m2:Int))(D:m1<2000000000)(A:m2<2000000000)(z:(m1+m2) < 2000000000)(F:((m1+m2) / 2) < 2000000000)(U:((m1+m2) / 2) < n)(g1:Ds[(m1+m2) / 2]?=some d1)(M:a<n)(Y:Ds[a]?=some d2)(K:EvE 267 [d1.pv,d2.pv] (I z1))
include G D A z F U g1 M Y K
def AjN:List Stp:=[sp 2 (AZ .i64 G),sp 3 (AO m1 m2 D A),sp 0 (AzO (m1+m2) z),sp 0 (AqD (m1+m2) z),sp 0 (AzP ((m1+m2) / 2) F),sp 4 (Kb (id:=H.length) (g:=g) U),st 0 (QS (aS H T g Ds) (ldA g1)),sp 2 (Kb (id:=H.length) (g:=g) M),st 0 (QS (aS H T g Ds) (ldA Y)),st 0 (KE K:Bt pur run (.w .DC) [.func 267 [] [],d1.pv,d2.pv] (aS H T g Ds) [some (I z1)] (aS H T g Ds))]
theorem Vu(c2:z1<0)(d:LL GJ 0 [(0,arr H.length g 0 n 5),(1,N a),(2,N m),(3,N b),(4,func 267 [] []),(10,N (((m1+m2) / 2)+1)),(11,N m2)] (aS H T g Ds) e x O):LL GJ 0 [(0,arr H.length g 0 n 5),(1,N a),(2,N m),(3,N b),(4,func 267 [] []),(10,N m1),(11,N m2)] (aS H T g Ds) e x O:=
 BC [0,1,2,3,4,10,11] (AjN (H:=H) (T:=T) (g:=g) G D A z F U g1 M Y K++[sp 0 (AZ .i64 c2),sp 2 (AO ((m1+m2) / 2) 1 F)]) d
theorem Vt(c2:¬z1<0)(d:LL GJ 0 [(0,arr H.length g 0 n 5),(1,N a),(2,N m),(3,N b),(4,func 267 [] []),(10,N m1),(11,N ((m1+m2) / 2))] (aS H T g Ds) e x O):LL GJ 0 [(0,arr H.length g 0 n 5),(1,N a),(2,N m),(3,N b),(4,func 267 [] []),(10,N m1),(11,N m2)] (aS H T g Ds) e x O:=
 BC [0,1,2,3,4,10,11] (AjN (H:=H) (T:=T) (g:=g) G D A z F U g1 M Y K++[sp 0 (Bh .i64 c2)]) d
end
def Vs(i:1<=m1)(k:m1<2000000000)(l:(m2:Int) < (((m1 - 1):Nat):Int))(d:m2<2000000000)(h:(m2+1) < n)(j:Ds1[m2+1]?=some d1)(f:m2<n)(r:Ds1[m2]?=some d2)(q:m2<Ds1.length)(o:(m2+1) < ((Ds1.set m2 d1)).length)(p:LL GJ 1 [(0,arr H.length g 0 n 5),(1,N a),(2,N m),(3,N b),(4,func 267 [] []),(10,N m1),(13,N (m2+1))] (aS H T g ((Ds1.set m2 d1).set (m2+1) d2)) e x O):LL GJ 1 [(0,arr H.length g 0 n 5),(1,N a),(2,N m),(3,N b),(4,func 267 [] []),(10,N m1),(13,N m2)] (aS H T g Ds1) e x O:=
 BC [0,1,2,3,4,10,13] [sp 2 (Fb m1 1 i k),sp 0 (AZ .i64 l),sp 5 (AO m2 1 d),sp 2 (AO m2 1 d),sp 0 (Kb (id:=H.length) (g:=g) h),st 0 (QS (aS H T g Ds1) (ldA j)),sp 2 (Kb (id:=H.length) (g:=g) f),st 0 (QS (aS H T g Ds1) (ldA r)),sp 0 (Kb (id:=H.length) (g:=g) f),st 0 (stA q:Bt pur run (.w (.st 5)) [.aptr H.length g 5 m2 0,d1.pv] (aS H T g Ds1) [] (aS H T g (Ds1.set m2 d1))),sp 0 (Kb (id:=H.length) (g:=g) h),st 0 (stA o:Bt pur run (.w (.st 5)) [.aptr H.length g 5 (m2+1) 0,d2.pv] (aS H T g (Ds1.set m2 d1)) [] (aS H T g ((Ds1.set m2 d1).set (m2+1) d2))),sp 1 (AO m2 1 d)] p
def Zc(d:1<=m1)(f:m1<2000000000)(h:¬(m2:Int) < (((m1 - 1):Nat):Int)):LL GJ 1 [(0,arr H.length g 0 n 5),(1,N a),(2,N m),(3,N b),(4,func 267 [] []),(10,N m1),(13,N m2)] (aS H T g Ds1) (.exit 2) [(0,arr H.length g 0 n 5),(1,N a),(2,N m),(3,N b),(4,func 267 [] []),(10,N m1)] (aS H T g Ds1):=
 Bw [0,1,2,3,4,10] [sp 2 (Fb m1 1 d f),sp 0 (Bh .i64 h)]
def Zb(d:¬(m1:Int) < (m2:Int)):LL GJ 2 [(0,arr H.length g 0 n 5),(1,N a),(2,N m),(3,N b),(4,func 267 [] []),(14,N m1),(15,N m2)] (aS H T g Ds) (.exit 4) [(0,arr H.length g 0 n 5),(1,N a),(2,N m),(3,N b),(4,func 267 [] []),(14,N m1)] (aS H T g Ds):=
 Bw [0,1,2,3,4,14] [sp 2 (Bh .i64 d)]
section
variable(G:(m1:Int) < (m2:Int))(D:m1<2000000000)(A:m2<2000000000)(z:(m1+m2) < 2000000000)(F:((m1+m2) / 2) < 2000000000)(U:m<n)(g1:Ds[m]?=some d1)(M:((m1+m2) / 2) < n)(Y:Ds[(m1+m2) / 2]?=some d2)(K:EvE 267 [d1.pv,d2.pv] (I z1))
include G D A z F U g1 M Y K
def AjM:List Stp:=[sp 2 (AZ .i64 G),sp 3 (AO m1 m2 D A),sp 0 (AzO (m1+m2) z),sp 0 (AqD (m1+m2) z),sp 0 (AzP ((m1+m2) / 2) F),sp 4 (Kb (id:=H.length) (g:=g) U),st 0 (QS (aS H T g Ds) (ldA g1)),sp 2 (Kb (id:=H.length) (g:=g) M),st 0 (QS (aS H T g Ds) (ldA Y)),st 0 (KE K:Bt pur run (.w .DC) [.func 267 [] [],d1.pv,d2.pv] (aS H T g Ds) [some (I z1)] (aS H T g Ds))]
theorem Vr(c2:z1<0)(d:LL GJ 2 [(0,arr H.length g 0 n 5),(1,N a),(2,N m),(3,N b),(4,func 267 [] []),(14,N m1),(15,N ((m1+m2) / 2))] (aS H T g Ds) e x O):LL GJ 2 [(0,arr H.length g 0 n 5),(1,N a),(2,N m),(3,N b),(4,func 267 [] []),(14,N m1),(15,N m2)] (aS H T g Ds) e x O:=
 BC [0,1,2,3,4,14,15] (AjM (H:=H) (T:=T) (g:=g) G D A z F U g1 M Y K++[sp 0 (AZ .i64 c2)]) d
theorem Vq(c2:¬z1<0)(d:LL GJ 2 [(0,arr H.length g 0 n 5),(1,N a),(2,N m),(3,N b),(4,func 267 [] []),(14,N (((m1+m2) / 2)+1)),(15,N m2)] (aS H T g Ds) e x O):LL GJ 2 [(0,arr H.length g 0 n 5),(1,N a),(2,N m),(3,N b),(4,func 267 [] []),(14,N m1),(15,N m2)] (aS H T g Ds) e x O:=
 BC [0,1,2,3,4,14,15] (AjM (H:=H) (T:=T) (g:=g) G D A z F U g1 M Y K++[sp 0 (Bh .i64 c2),sp 3 (AO ((m1+m2) / 2) 1 F)]) d
end
def Vp(l:(m2:Int) > (m1:Int))(d:1<=m2)(f:m2<2000000000)(h:(m2 - 1) < n)(j:Ds1[m2 - 1]?=some d1)(i:m2<n)(p:Ds1[m2]?=some d2)(o:m2<Ds1.length)(q:(m2 - 1) < ((Ds1.set m2 d1)).length)(k:LL GJ 3 [(0,arr H.length g 0 n 5),(1,N a),(2,N m),(3,N b),(4,func 267 [] []),(14,N m1),(17,N (m2 - 1))] (aS H T g ((Ds1.set m2 d1).set (m2 - 1) d2)) e x O):LL GJ 3 [(0,arr H.length g 0 n 5),(1,N a),(2,N m),(3,N b),(4,func 267 [] []),(14,N m1),(17,N m2)] (aS H T g Ds1) e x O:=
 BC [0,1,2,3,4,14,17] [sp 2 (CF .i64 l),sp 5 (Fb m2 1 d f),sp 2 (Fb m2 1 d f),sp 0 (Kb (id:=H.length) (g:=g) h),st 0 (QS (aS H T g Ds1) (ldA j)),sp 2 (Kb (id:=H.length) (g:=g) i),st 0 (QS (aS H T g Ds1) (ldA p)),sp 0 (Kb (id:=H.length) (g:=g) i),st 0 (stA o:Bt pur run (.w (.st 5)) [.aptr H.length g 5 m2 0,d1.pv] (aS H T g Ds1) [] (aS H T g (Ds1.set m2 d1))),sp 0 (Kb (id:=H.length) (g:=g) h),st 0 (stA q:Bt pur run (.w (.st 5)) [.aptr H.length g 5 (m2 - 1) 0,d2.pv] (aS H T g (Ds1.set m2 d1)) [] (aS H T g ((Ds1.set m2 d1).set (m2 - 1) d2))),sp 1 (Fb m2 1 d f)] k
def Za(d:¬(m2:Int) > (m1:Int)):LL GJ 3 [(0,arr H.length g 0 n 5),(1,N a),(2,N m),(3,N b),(4,func 267 [] []),(14,N m1),(17,N m2)] (aS H T g Ds1) (.exit 6) [(0,arr H.length g 0 n 5),(1,N a),(2,N m),(3,N b),(4,func 267 [] []),(14,N m1)] (aS H T g Ds1):=
 Bw [0,1,2,3,4,14] [sp 2 (Cz .i64 d)]
def Y9(d:¬(m1:Int) < (m2:Int)):LL GJ 4 [(0,arr H.length g 0 n 5),(1,N a),(2,N m),(3,N b),(4,func 267 [] []),(18,N ((a+b) / 2)),(19,N (((a+b) / 2)+m)),(20,N m1),(21,N m2),(22,N ((((a+b) / 2)+m) - 1))] (aS H T g Ds) (.exit 8) [(0,arr H.length g 0 n 5),(1,N a),(2,N m),(3,N b),(4,func 267 [] []),(18,N ((a+b) / 2)),(19,N (((a+b) / 2)+m)),(20,N m1)] (aS H T g Ds):=
 Bw [0,1,2,3,4,18,19,20] [sp 2 (Bh .i64 d)]
section
variable(G:(m1:Int) < (m2:Int))(D:m1<2000000000)(A:m2<2000000000)(z:(m1+m2) < 2000000000)(F:((m1+m2) / 2) < 2000000000)(U:((m1+m2) / 2)<=((((a+b) / 2)+m) - 1))(M:((((a+b) / 2)+m) - 1) < 2000000000)(W:(((((a+b) / 2)+m) - 1) - ((m1+m2) / 2)) < n)(g1:Ds[((((a+b) / 2)+m) - 1) - ((m1+m2) / 2)]?=some d1)(V:((m1+m2) / 2) < n)(Y:Ds[(m1+m2) / 2]?=some d2)(K:EvE 267 [d1.pv,d2.pv] (I z1))
include G D A z F U M W g1 V Y K
def rM:List Stp:=[sp 2 (AZ .i64 G),sp 3 (AO m1 m2 D A),sp 0 (AzO (m1+m2) z),sp 0 (AqD (m1+m2) z),sp 0 (AzP ((m1+m2) / 2) F),sp 5 (Fb ((((a+b) / 2)+m) - 1) ((m1+m2) / 2) U M),sp 0 (Kb (id:=H.length) (g:=g) W),st 0 (QS (aS H T g Ds) (ldA g1)),sp 2 (Kb (id:=H.length) (g:=g) V),st 0 (QS (aS H T g Ds) (ldA Y)),st 0 (KE K:Bt pur run (.w .DC) [.func 267 [] [],d1.pv,d2.pv] (aS H T g Ds) [some (I z1)] (aS H T g Ds))]
theorem Vo(c2:z1<0)(d:LL GJ 4 [(0,arr H.length g 0 n 5),(1,N a),(2,N m),(3,N b),(4,func 267 [] []),(18,N ((a+b) / 2)),(19,N (((a+b) / 2)+m)),(20,N m1),(21,N ((m1+m2) / 2)),(22,N ((((a+b) / 2)+m) - 1))] (aS H T g Ds) e x O):LL GJ 4 [(0,arr H.length g 0 n 5),(1,N a),(2,N m),(3,N b),(4,func 267 [] []),(18,N ((a+b) / 2)),(19,N (((a+b) / 2)+m)),(20,N m1),(21,N m2),(22,N ((((a+b) / 2)+m) - 1))] (aS H T g Ds) e x O:=
 BC [0,1,2,3,4,18,19,20,21,22] (rM (H:=H) (T:=T) (g:=g) G D A z F U M W g1 V Y K++[sp 0 (AZ .i64 c2)]) d
theorem Vn(c2:¬z1<0)(d:LL GJ 4 [(0,arr H.length g 0 n 5),(1,N a),(2,N m),(3,N b),(4,func 267 [] []),(18,N ((a+b) / 2)),(19,N (((a+b) / 2)+m)),(20,N (((m1+m2) / 2)+1)),(21,N m2),(22,N ((((a+b) / 2)+m) - 1))] (aS H T g Ds) e x O):LL GJ 4 [(0,arr H.length g 0 n 5),(1,N a),(2,N m),(3,N b),(4,func 267 [] []),(18,N ((a+b) / 2)),(19,N (((a+b) / 2)+m)),(20,N m1),(21,N m2),(22,N ((((a+b) / 2)+m) - 1))] (aS H T g Ds) e x O:=
 BC [0,1,2,3,4,18,19,20,21,22] (rM (H:=H) (T:=T) (g:=g) G D A z F U M W g1 V Y K++[sp 0 (Bh .i64 c2),sp 3 (AO ((m1+m2) / 2) 1 F)]) d
end
def BYJ:Rn 284 KZ:=rn
def r136(f:LL KZ 0 [(0,arr H.length g 0 n 5),(1,N n),(2,func 267 [] []),(6,I 20),(7,I 0),(8,I 20)] (aS H T g Ds) (.exit 0) [(0,arr H.length g 0 n 5),(1,N n),(2,func 267 [] []),(6,I 20),(7,N m1),(8,N m2)] (aS H T g Ds1))(d:E 294 [.arr H.length g 0 n 5,N m1,N n,.func 267 [] []] (aS H T g Ds1) (.tuple []) (aS H T g Ds2))(h:LL KZ 1 [(0,arr H.length g 0 n 5),(1,N n),(2,func 267 [] []),(6,I 20),(7,N m1),(8,N m2)] (aS H T g Ds2) (.exit 2) [(0,arr H.length g 0 n 5),(1,N n),(2,func 267 [] []),(6,N m3),(7,N m4),(8,N m5)] (aS H T g Ds3)):E 284 [.arr H.length g 0 n 5,N n,.func 267 [] []] (aS H T g Ds) (.tuple []) (aS H T g Ds3):=
 rule BYJ [sl 4 [0,1,2,6,7,8] f,st 4 (oW d),sl 0 [0,1,2,6,7,8] h]
def V6(f:(m2:Int)<=(n:Int))(d:E 294 [.arr H.length g 0 n 5,N m1,N m2,.func 267 [] []] (aS H T g Ds1) (.tuple []) (aS H T g Ds2))(i:m2<2000000000)(h:LL KZ 0 [(0,arr H.length g 0 n 5),(1,N n),(2,func 267 [] []),(6,I 20),(7,N m2),(8,N (m2+20))] (aS H T g Ds2) e x O):LL KZ 0 [(0,arr H.length g 0 n 5),(1,N n),(2,func 267 [] []),(6,I 20),(7,N m1),(8,N m2)] (aS H T g Ds1) e x O:=
 BC [0,1,2,6,7,8] [sp 2 (KW .i64 f),st 5 (oW d),sp 4 (AO m2 20 i)] h
def Zm(d:¬(m2:Int)<=(n:Int)):LL KZ 0 [(0,arr H.length g 0 n 5),(1,N n),(2,func 267 [] []),(6,I 20),(7,N m1),(8,N m2)] (aS H T g Ds1) (.exit 0) [(0,arr H.length g 0 n 5),(1,N n),(2,func 267 [] []),(6,I 20),(7,N m1),(8,N m2)] (aS H T g Ds1):=
 Bw [0,1,2,6,7,8] [sp 2 (LC .i64 d)]
def Zl(d:¬(m1:Int) < (n:Int)):LL KZ 1 [(0,arr H.length g 0 n 5),(1,N n),(2,func 267 [] []),(6,N m1),(7,N m2),(8,N m3)] (aS H T g Ds1) (.exit 2) [(0,arr H.length g 0 n 5),(1,N n),(2,func 267 [] []),(6,N m1),(7,N m2),(8,N m3)] (aS H T g Ds1):=
 Bw [0,1,2,6,7,8] [sp 2 (Bh .i64 d)]
section
variable(G:(m1:Int) < (n:Int))(D:2 * m1<2000000000)(L1:LL KZ 2 [(0,arr H.length g 0 n 5),(1,N n),(2,func 267 [] []),(6,N m1),(7,I 0),(8,N (2 * m1))] (aS H T g Ds1) (.exit 4) [(0,arr H.length g 0 n 5),(1,N n),(2,func 267 [] []),(6,N m1),(7,N m4),(8,N m5)] (aS H T g Ds3))(A:m4<2000000000)(z:m1<2000000000)
include G D L1 A z
def rJ:List Stp:=[sp 2 (AZ .i64 G),sp 2 (AxU 2 m1 D),sl 2 [0,1,2,6,7,8] L1,sp 2 (AO m4 m1 A z)]
theorem V5(c2:(((m4+m1):Nat):Int) < (n:Int))(d:E 295 [.arr H.length g 0 n 5,N m4,N (m4+m1),N n,.func 267 [] []] (aS H T g Ds3) (.tuple []) (aS H T g ab))(f:m1 * 2<2000000000)(h:LL KZ 1 [(0,arr H.length g 0 n 5),(1,N n),(2,func 267 [] []),(6,N (m1 * 2)),(7,N m4),(8,N m5)] (aS H T g ab) e x O):LL KZ 1 [(0,arr H.length g 0 n 5),(1,N n),(2,func 267 [] []),(6,N m1),(7,N m2),(8,N m3)] (aS H T g Ds1) e x O:=
 BC [0,1,2,6,7,8] (rJ G D L1 A z++[sp 3 (AZ .i64 c2),st 6 (oW d),sp 1 (AxU m1 2 f)]) h
theorem V4(c2:¬(((m4+m1):Nat):Int) < (n:Int))(d:m1 * 2<2000000000)(f:LL KZ 1 [(0,arr H.length g 0 n 5),(1,N n),(2,func 267 [] []),(6,N (m1 * 2)),(7,N m4),(8,N m5)] (aS H T g Ds3) e x O):LL KZ 1 [(0,arr H.length g 0 n 5),(1,N n),(2,func 267 [] []),(6,N m1),(7,N m2),(8,N m3)] (aS H T g Ds1) e x O:=
 BC [0,1,2,6,7,8] (rJ G D L1 A z++[sp 3 (Bh .i64 c2),sp 2 (AxU m1 2 d)]) f
end
def V3(i:(m5:Int)<=(n:Int))(o:m4<2000000000)(f:m1<2000000000)(d:E 295 [.arr H.length g 0 n 5,N m4,N (m4+m1),N m5,.func 267 [] []] (aS H T g Ds3) (.tuple []) (aS H T g ab))(l:2 * m1<2000000000)(j:m5<2000000000)(h:(2 * m1) < 2000000000)(k:LL KZ 2 [(0,arr H.length g 0 n 5),(1,N n),(2,func 267 [] []),(6,N m1),(7,N m5),(8,N (m5+(2 * m1)))] (aS H T g ab) e x O):LL KZ 2 [(0,arr H.length g 0 n 5),(1,N n),(2,func 267 [] []),(6,N m1),(7,N m4),(8,N m5)] (aS H T g Ds3) e x O:=
 BC [0,1,2,6,7,8] [sp 2 (KW .i64 i),sp 5 (AO m4 m1 o f),st 2 (oW d),sp 4 (AxU 2 m1 l),sp 0 (AO m5 (2 * m1) j h)] k
def Zk(d:¬(m5:Int)<=(n:Int)):LL KZ 2 [(0,arr H.length g 0 n 5),(1,N n),(2,func 267 [] []),(6,N m1),(7,N m4),(8,N m5)] (aS H T g Ds3) (.exit 4) [(0,arr H.length g 0 n 5),(1,N n),(2,func 267 [] []),(6,N m1),(7,N m4),(8,N m5)] (aS H T g Ds3):=
 Bw [0,1,2,6,7,8] [sp 2 (LC .i64 d)]
def R99:Rn 266 a266:=rn
def r99(d:E 284 [.arr H.length g 0 n 5,N n,.func 267 [] []] (aS H T g Ds) (.tuple []) (aS H T g Ds1)):E 266 [.arr H.length g 0 n 5,.func 267 [] []] (aS H T g Ds) (.tuple []) (aS H T g Ds1):=
 rule R99 [st 4 (oW d)]
end
end Go.Abs.Z

namespace Go.Abs.Z
open Go.Proofs Go.RowKit
def Hv(v:PV):Prop:=v=.nils\/∃i g o l s,v=.arr i g o l s
def Hv.nil:Hv .nils:=.inl rfl
def Hv.arr(i g o l s:Nat):Hv (.arr i g o l s):=.inr ⟨_,_,_,_,_,rfl⟩
def Hv.Ck{v:PV}(h:Hv v):v.Ck=v:=by rcases h with rfl | ⟨_,_,_,_,_,rfl⟩<;>rfl
def Hv.Ag{v:PV}(h:Hv v):v.Ag=v:=by rcases h with rfl | ⟨_,_,_,_,_,rfl⟩<;>rfl
def Hv.free{v:PV}(h:Hv v):v.free=true:=by rcases h with rfl | ⟨_,_,_,_,_,rfl⟩<;>rfl
def Hv.flat{v:PV}(h:Hv v):v.isSelf=false:=by rcases h with rfl | ⟨_,_,_,_,_,rfl⟩<;>rfl
def Hv.one{v:PV}(h:Hv v):v.one=true:=by rcases h with rfl | ⟨_,_,_,_,_,rfl⟩<;>rfl
def KL{v:PV}(h:Hv v):AQ .mv [v]=some [some v]:=Lb h.free h.Ag
def ldW{s:List UInt8}{ls:List Tk}{k l:Nat}{wr:PV}{b:Int}{T:Sto}(h:Hv wr):Dq (.ld 1 false) [.ref 0 4] (pc s ls k l wr b::T)=some [some wr]:=by rcases h with rfl | ⟨_,_,_,_,_,rfl⟩<;>rfl
def q0(s:List UInt8)(v:PV):List PV:=[.str s,v,N 0,N 0,.nils,I (-1)]
def wS{s:List UInt8}{B:Sto}(L:List PV):Bt pur run (.w .ldo) [.ref 0 1] (q0 s (BI 4 L)::B) [some (BI 4 L)] (q0 s (Ci 4 L)::B):=by
 refine⟨0,λn _=>?_⟩
 cases L<;>rfl
def ui{s:List UInt8}{B:Sto}(L M:List PV):Bt pur run (.w .sto) [.ref 0 1,BI 4 M] (q0 s (Ci 4 L)::B) [some (Ci 4 M)] (q0 s (BI 4 M)::B):=by
 refine⟨0,λn _=>?_⟩
 cases L<;>cases M<;>rfl
@[simp] theorem BYZ(f:FuncId):(PV.func f [] []).flat=true:=rfl
@[simp] theorem BZU(n:Nat)(es:List PV):(Ci n es).flat=true:=XL n es
end Go.Abs.Z

namespace Go.Abs.Z
noncomputable section
open PV
open Go.Proofs Go.RowKit
variable{σ G M U B1 B2 O:Sto}{a b m1 n m2 m3:Nat}{s Y:List UInt8}{D:List Tk}{z1:Int}{z J:PV}{x F:List PV}{t1:Tk}{e:CE}{H:FF}{g:FuncId}{K:Tr}
def BQ3(c:a<2000000000)(d:LL Qa 0 [(0,nils),(1,N a),(2,N b),(3,func 267 [] []),(8,N (a+1))] σ (.exit 0) [(1,N a)] G):E 294 [.nils,N a,N b,.func 267 [] []] σ (.tuple []) G:=
 rule BYE [sp 1 (AO a 1 c),sl 1 [0,1,2,3,8] d]
def Vv(c:¬(m1:Int) < (b:Int)):LL Qa 0 [(0,nils),(1,N a),(2,N b),(3,func 267 [] []),(8,N m1)] G (.exit 0) [(1,N a)] G:=
 Bw [1] [sp 2 (Bh .i64 c)]
def BQ5{d:Nat}{h:Nat}(f:LL KZ 0 [(0,nils),(1,N n),(2,func 267 [] []),(6,I 20),(7,I 0),(8,I 20)] σ (.exit 0) [(0,nils),(1,N n),(2,func 267 [] []),(6,I 20),(7,N m1),(8,N m2)] G)(c:E 294 [.nils,N m1,N n,.func 267 [] []] G (.tuple []) M)(i:LL KZ 1 [(0,nils),(1,N n),(2,func 267 [] []),(6,I 20),(7,N m1),(8,N m2)] M (.exit 2) [(0,nils),(1,N n),(2,func 267 [] []),(6,N m3),(7,N d),(8,N h)] U):E 284 [.nils,N n,.func 267 [] []] σ (.tuple []) U:=
 rule BYJ [sl 4 [0,1,2,6,7,8] f,st 4 (oW c),sl 0 [0,1,2,6,7,8] i]
def Vz(c:¬(m2:Int)<=(n:Int)):LL KZ 0 [(0,nils),(1,N n),(2,func 267 [] []),(6,I 20),(7,N m1),(8,N m2)] G (.exit 0) [(0,nils),(1,N n),(2,func 267 [] []),(6,I 20),(7,N m1),(8,N m2)] G:=
 Bw [0,1,2,6,7,8] [sp 2 (LC .i64 c)]
def Vy(c:¬(m1:Int) < (n:Int)):LL KZ 1 [(0,nils),(1,N n),(2,func 267 [] []),(6,N m1),(7,N m2),(8,N m3)] G (.exit 2) [(0,nils),(1,N n),(2,func 267 [] []),(6,N m1),(7,N m2),(8,N m3)] G:=
 Bw [0,1,2,6,7,8] [sp 2 (Bh .i64 c)]
def CqH(c:E 284 [.nils,I 0,.func 267 [] []] σ (.tuple []) G):E 266 [.nils,.func 267 [] []] σ (.tuple []) G:=
 rule R99 [st 4 (oW c)]
def R46:Rn 230 N8:=rn
def Bw4(d:EvE 94 [.str s] (.tuple [slF 4 (D.map Tk.pv),I z1]))(h:z1=0)(c:Hv z)(f:LL N8 0 [(0,str s),(7,r0),(8,nils),(26,slice false 4 (D.map Tk.pv)),(27,N D.length),(28,I 0)] (q0 s .nils::[]) (.exit 0) [(0,str s),(7,r0),(8,z),(26,slice false 4 (D.map Tk.pv))] (q0 s (BI 4 x)::B1)):E 230 [.str s] [] (.tuple [r0,z,I 0]) (q0 s (BI 4 x)::B1):=
 Br R46 [st 4 (oC d),sp 6 (Dr .i64 h),sp 7 (ED false 4 D),sl 1 [0,7,8,26,27,28] f,sp 1 (KL c),sp 1 (KL c)] (by rcases c with rfl | ⟨_,_,_,_,_,rfl⟩<;>rfl:(FE [(2,r0),(3,z),(4,I 0)] [(2,none),(3,none),(4,none)]).bind CX=some (.tuple [r0,z,I 0]))
def dK(c:Hv z)(d:¬(m1:Int) < (D.length:Int)):LL N8 0 [(0,str s),(7,r0),(8,z),(26,slice false 4 (D.map Tk.pv)),(27,N D.length),(28,N m1)] (q0 s (BI 4 x)::B1) (.exit 0) [(0,str s),(7,r0),(8,z),(26,slice false 4 (D.map Tk.pv))] (q0 s (BI 4 x)::B1):=
 Bw [0,7,8,26] [sp 0 (Bh .i64 d)]
section
variable(A:Hv z)(W:(m1:Int) < (D.length:Int))(V:D[m1]?=some t1)(X:BM (.ssl true true) [.str s,N t1.a,N t1.e] (.str Y))
include A W V X
def kR:List Stp:=[sp 0 (AZ .i64 W),sp 1 (Cs (o:=false) (s:=4) m1 V),sp 8 X]
theorem Yy(c2:(t1.k:Int)=4)(c:Hv J)(f:Bt pur run (.w (.Gj 5)) [z,.slice true 5 [.agg [I 1,N t1.a,N t1.e,.str [],.nils]]] (q0 s (BI 4 x)::B1) [some J] (q0 s (BI 4 x)::B2))(h:m1<2000000000)(d:LL N8 0 [(0,str s),(7,r0),(8,J),(26,slice false 4 (D.map Tk.pv)),(27,N D.length),(28,N (m1+1))] (q0 s (BI 4 x)::B2) e H O):LL N8 0 [(0,str s),(7,r0),(8,z),(26,slice false 4 (D.map Tk.pv)),(27,N D.length),(28,N m1)] (q0 s (BI 4 x)::B1) e H O:=
 BC [0,7,8,26,27,28] (kR W V X++[sp 4 (Bz .i64 c2),sp 6 (KL A),st 7 f,sp 0 (KL c),sp 2 (Dr .i64 c2),sp 1 (AO m1 1 h)]) d
section
variable(c2:(t1.k:Int)≠4)
include c2
theorem Yx(f:(t1.k:Int)=2)(c:EvE 248 [.str Y] (.tuple [I z1,.bool true]))(i:x.length+1<=Bo)(d:m1<2000000000)(h:LL N8 0 [(0,str s),(7,r0),(8,z),(26,slice false 4 (D.map Tk.pv)),(27,N D.length),(28,N (m1+1))] (q0 s (BI 4 (x++[t1.pv]))::B1) e H O):LL N8 0 [(0,str s),(7,r0),(8,z),(26,slice false 4 (D.map Tk.pv)),(27,N D.length),(28,N m1)] (q0 s (BI 4 x)::B1) e H O:=
 BC [0,7,8,26,27,28] (kR W V X++[sp 4 (Bb .i64 c2),sp 2 (Bz .i64 f),st 3 (oCS (q0 s (BI 4 x)::B1) c),sp 13 (C8 .i64 c2),st 5 (wS x:Bt pur run (.w .ldo) [.ref 0 1] (q0 s (BI 4 x)::B1) [some (BI 4 x)] (q0 s (Ci 4 x)::B1)),st 2 (GK (Kg i (by simp[A.Ck,A.Ag,A.free,A.flat,A.one])):Bt pur run (.p (.app 4)) [BI 4 x,.slice true 4 [t1.pv]] (q0 s (Ci 4 x)::B1) [some (BI 4 (x++[t1.pv])),some (Ci 4 x)] (q0 s (Ci 4 x)::B1)),st 2 (ui x (x++[t1.pv]):Bt pur run (.w .sto) [.ref 0 1,BI 4 (x++[t1.pv])] (q0 s (Ci 4 x)::B1) [some (Ci 4 (x++[t1.pv]))] (q0 s (BI 4 (x++[t1.pv]))::B1)),sp 0 (AO m1 1 d)]) h
theorem Yw(f:(t1.k:Int)=2)(d:EvE 248 [.str Y] (.tuple [I z1,.bool false]))(c:Hv J)(j:Bt pur run (.w (.Gj 5)) [z,.slice true 5 [.agg [I 2,N t1.a,N t1.e,.str [],.nils]]] (q0 s (BI 4 x)::B1) [some J] (q0 s (BI 4 x)::B2))(k:x.length+1<=Bo)(h:m1<2000000000)(i:LL N8 0 [(0,str s),(7,r0),(8,J),(26,slice false 4 (D.map Tk.pv)),(27,N D.length),(28,N (m1+1))] (q0 s (BI 4 (x++[t1.pv]))::B2) e H O):LL N8 0 [(0,str s),(7,r0),(8,z),(26,slice false 4 (D.map Tk.pv)),(27,N D.length),(28,N m1)] (q0 s (BI 4 x)::B1) e H O:=
 BC [0,7,8,26,27,28] (kR W V X++[sp 4 (Bb .i64 c2),sp 2 (Bz .i64 f),st 3 (oCS (q0 s (BI 4 x)::B1) d),sp 12 (KL A),st 7 j,sp 0 (KL c),sp 2 (C8 .i64 c2),st 5 (wS x:Bt pur run (.w .ldo) [.ref 0 1] (q0 s (BI 4 x)::B2) [some (BI 4 x)] (q0 s (Ci 4 x)::B2)),st 2 (GK (Kg k (by simp[A.Ck,A.Ag,A.free,A.flat,A.one,c.Ck,c.Ag,c.free,c.flat,c.one])):Bt pur run (.p (.app 4)) [BI 4 x,.slice true 4 [t1.pv]] (q0 s (Ci 4 x)::B2) [some (BI 4 (x++[t1.pv])),some (Ci 4 x)] (q0 s (Ci 4 x)::B2)),st 2 (ui x (x++[t1.pv]):Bt pur run (.w .sto) [.ref 0 1,BI 4 (x++[t1.pv])] (q0 s (Ci 4 x)::B2) [some (Ci 4 (x++[t1.pv]))] (q0 s (BI 4 (x++[t1.pv]))::B2)),sp 0 (AO m1 1 h)]) i
section
variable(c3:(t1.k:Int)≠2)
include c3
def rF:List Stp:=kR W V X++[sp 4 (Bb .i64 c2),sp 2 (Bb .i64 c3)]
theorem Yv(f:(t1.k:Int)≠0)(c:x.length+1<=Bo)(d:m1<2000000000)(h:LL N8 0 [(0,str s),(7,r0),(8,z),(26,slice false 4 (D.map Tk.pv)),(27,N D.length),(28,N (m1+1))] (q0 s (BI 4 (x++[t1.pv]))::B1) e H O):LL N8 0 [(0,str s),(7,r0),(8,z),(26,slice false 4 (D.map Tk.pv)),(27,N D.length),(28,N m1)] (q0 s (BI 4 x)::B1) e H O:=
 BC [0,7,8,26,27,28] (rF W V X c2 c3++[sp 2 (Bb .i64 f),sp 7 (C8 .i64 c2),st 5 (wS x:Bt pur run (.w .ldo) [.ref 0 1] (q0 s (BI 4 x)::B1) [some (BI 4 x)] (q0 s (Ci 4 x)::B1)),st 2 (GK (Kg c (by simp[A.Ck,A.Ag,A.free,A.flat,A.one])):Bt pur run (.p (.app 4)) [BI 4 x,.slice true 4 [t1.pv]] (q0 s (Ci 4 x)::B1) [some (BI 4 (x++[t1.pv])),some (Ci 4 x)] (q0 s (Ci 4 x)::B1)),st 2 (ui x (x++[t1.pv]):Bt pur run (.w .sto) [.ref 0 1,BI 4 (x++[t1.pv])] (q0 s (Ci 4 x)::B1) [some (Ci 4 (x++[t1.pv]))] (q0 s (BI 4 (x++[t1.pv]))::B1)),sp 0 (AO m1 1 d)]) h
theorem Yu(h:(t1.k:Int)=0)(f:(Y.length:Int) > 16)(c:Hv J)(k:Bt pur run (.w (.Gj 5)) [z,.slice true 5 [.agg [I 3,N t1.a,N t1.e,.str [],.nils]]] (q0 s (BI 4 x)::B1) [some J] (q0 s (BI 4 x)::B2))(d:x.length+1<=Bo)(i:m1<2000000000)(j:LL N8 0 [(0,str s),(7,r0),(8,J),(26,slice false 4 (D.map Tk.pv)),(27,N D.length),(28,N (m1+1))] (q0 s (BI 4 (x++[t1.pv]))::B2) e H O):LL N8 0 [(0,str s),(7,r0),(8,z),(26,slice false 4 (D.map Tk.pv)),(27,N D.length),(28,N m1)] (q0 s (BI 4 x)::B1) e H O:=
 BC [0,7,8,26,27,28] (rF W V X c2 c3++[sp 2 (Bz .i64 h),sp 4 (CF .i64 f),sp 5 (KL A),st 7 k,sp 0 (KL c),sp 2 (C8 .i64 c2),st 5 (wS x:Bt pur run (.w .ldo) [.ref 0 1] (q0 s (BI 4 x)::B2) [some (BI 4 x)] (q0 s (Ci 4 x)::B2)),st 2 (GK (Kg d (by simp[A.Ck,A.Ag,A.free,A.flat,A.one,c.Ck,c.Ag,c.free,c.flat,c.one])):Bt pur run (.p (.app 4)) [BI 4 x,.slice true 4 [t1.pv]] (q0 s (Ci 4 x)::B2) [some (BI 4 (x++[t1.pv])),some (Ci 4 x)] (q0 s (Ci 4 x)::B2)),st 2 (ui x (x++[t1.pv]):Bt pur run (.w .sto) [.ref 0 1,BI 4 (x++[t1.pv])] (q0 s (Ci 4 x)::B2) [some (Ci 4 (x++[t1.pv]))] (q0 s (BI 4 (x++[t1.pv]))::B2)),sp 0 (AO m1 1 i)]) j
theorem Yt(h:(t1.k:Int)=0)(f:¬(Y.length:Int) > 16)(c:x.length+1<=Bo)(d:m1<2000000000)(i:LL N8 0 [(0,str s),(7,r0),(8,z),(26,slice false 4 (D.map Tk.pv)),(27,N D.length),(28,N (m1+1))] (q0 s (BI 4 (x++[t1.pv]))::B1) e H O):LL N8 0 [(0,str s),(7,r0),(8,z),(26,slice false 4 (D.map Tk.pv)),(27,N D.length),(28,N m1)] (q0 s (BI 4 x)::B1) e H O:=
 BC [0,7,8,26,27,28] (rF W V X c2 c3++[sp 2 (Bz .i64 h),sp 4 (Cz .i64 f),sp 6 (C8 .i64 c2),st 5 (wS x:Bt pur run (.w .ldo) [.ref 0 1] (q0 s (BI 4 x)::B1) [some (BI 4 x)] (q0 s (Ci 4 x)::B1)),st 2 (GK (Kg c (by simp[A.Ck,A.Ag,A.free,A.flat,A.one])):Bt pur run (.p (.app 4)) [BI 4 x,.slice true 4 [t1.pv]] (q0 s (Ci 4 x)::B1) [some (BI 4 (x++[t1.pv])),some (Ci 4 x)] (q0 s (Ci 4 x)::B1)),st 2 (ui x (x++[t1.pv]):Bt pur run (.w .sto) [.ref 0 1,BI 4 (x++[t1.pv])] (q0 s (Ci 4 x)::B1) [some (Ci 4 (x++[t1.pv]))] (q0 s (BI 4 (x++[t1.pv]))::B1)),sp 0 (AO m1 1 d)]) i
end
end
end
def R48:Rn 232 a232:=rn
def r48{ls:List Tk}{k:Nat}{l:Nat}{wr:PV}{bf:Int}{T:Sto}{h:PV}(d:Hv h)(f:Hv wr){G:Sto}{z:PV}{M:Sto}{F:List PV}{U:Sto}(c:Hv z)(i:Bt pur run (.w (.Gj 5)) [h,wr] (pc s ls k l wr bf::T) [some z] G)(m:E 266 [z,.func 267 [] []] G (.tuple []) M)(j:Bt pur run (.w .frz) [z] M [some (Ci 5 F)] U):E 232 [r0,h] (pc s ls k l wr bf::T) (Ci 5 F) U:=
 Br R48 [sp 1 (KL d),st 3 (QS (pc s ls k l wr bf::T) (ldW f)),st 0 i,sp 0 (KL c),sp 0 (KL c),st 0 (FR m (by rfl) (by simp[d.Ck,d.Ag,d.free,d.flat,d.one,f.Ck,f.Ag,f.free,f.flat,f.one,c.Ck,c.Ag,c.free,c.flat,c.one]) (by simp[d.Ck,d.Ag,d.free,d.flat,d.one,f.Ck,f.Ag,f.free,f.flat,f.one,c.Ck,c.Ag,c.free,c.flat,c.one]) (by simp[d.Ck,d.Ag,d.free,d.flat,d.one,f.Ck,f.Ag,f.free,f.flat,f.one,c.Ck,c.Ag,c.free,c.flat,c.one]):Bt pur run (.w (.call 266)) [z,.func 267 [] []] G [some (.tuple [])] M),st 0 j,sp 0 (NK 5 F)] (by simp[Et,CX]:(FE [(4,Ci 5 F)] [(4,none)]).bind CX=some (Ci 5 F))
def R22:Rn 155 a155:=rn
def BQ1{j:PV}{i:Sto}{h:Sto}(c:Hv z)(k:E 230 [.str s] [] (.tuple [r0,z,I z1]) G)(m:z1=0)(o:pur g=false)(l:E g [r0] G K.pv M)(r:E 231 [r0,I 0] M t1.pv M)(c2:(t1.k:Int)≠5)(f:Hv J)(p:Dq (.ld 1 false) [.ref 0 4] M=some [some J])(d:Hv j)(t:Bt pur run (.w (.Gj 5)) [J,.slice true 5 [.agg [I 4,N t1.a,N t1.e,.str [101,110,100],.nils]]] M [some j] U)(q:Bt pur run (.w (.st 1)) [.ref 0 4,j] U [] i)(u:E 232 [r0,z] i (Ci 5 F) h):E 155 [.str s,.func g [] []] [] (.tuple [K.pv,Ci 5 F,I 0]) h:=
 Br R22 [st 4 (FR k (by rfl) (by simp[c.Ck,c.Ag,c.free,c.flat,c.one,f.Ck,f.Ag,f.free,f.flat,f.one,d.Ck,d.Ag,d.free,d.flat,d.one]) (by simp[c.Ck,c.Ag,c.free,c.flat,c.one,f.Ck,f.Ag,f.free,f.flat,f.one,d.Ck,d.Ag,d.free,d.flat,d.one]) (by simp[c.Ck,c.Ag,c.free,c.flat,c.one,f.Ck,f.Ag,f.free,f.flat,f.one,d.Ck,d.Ag,d.free,d.flat,d.one]):Bt pur run (.w (.call 230)) [.str s] [] [some (.tuple [r0,z,I z1])] G),st 1 (GK (LA 0 (by rfl) (by simp[c.Ck,c.Ag,c.free,c.flat,c.one,f.Ck,f.Ag,f.free,f.flat,f.one,d.Ck,d.Ag,d.free,d.flat,d.one])):Bt pur run (.p (.ext 0)) [.tuple [r0,z,I z1]] G [some r0] G),st 0 (GK (LA 1 (by rfl) (by simp[c.Ck,c.Ag,c.free,c.flat,c.one,f.Ck,f.Ag,f.free,f.flat,f.one,d.Ck,d.Ag,d.free,d.flat,d.one])):Bt pur run (.p (.ext 1)) [.tuple [r0,z,I z1]] G [some z] G),st 0 (GK (LA 2 (by rfl) (by simp[c.Ck,c.Ag,c.free,c.flat,c.one,f.Ck,f.Ag,f.free,f.flat,f.one,d.Ck,d.Ag,d.free,d.flat,d.one])):Bt pur run (.p (.ext 2)) [.tuple [r0,z,I z1]] G [some (I z1)] G),sp 1 (KL c),sp 2 (Dr .i64 m),st 3 (Oh l o (by simp[c.Ck,c.Ag,c.free,c.flat,c.one,f.Ck,f.Ag,f.free,f.flat,f.one,d.Ck,d.Ag,d.free,d.flat,d.one]) (by simp[c.Ck,c.Ag,c.free,c.flat,c.one,f.Ck,f.Ag,f.free,f.flat,f.one,d.Ck,d.Ag,d.free,d.flat,d.one]) (by simp[c.Ck,c.Ag,c.free,c.flat,c.one,f.Ck,f.Ag,f.free,f.flat,f.one,d.Ck,d.Ag,d.free,d.flat,d.one]):Bt pur run (.w .DC) [.func g [] [],r0] G [some K.pv] M),sp 1 (BD K),st 1 (oW r),sp 4 (C8 .i64 c2),st 5 (QS M p),st 6 t,st 2 q,sp 0 (wR K),sp 1 (KL c),st 0 (FR u (by rfl) (by simp[c.Ck,c.Ag,c.free,c.flat,c.one,f.Ck,f.Ag,f.free,f.flat,f.one,d.Ck,d.Ag,d.free,d.flat,d.one]) (by simp[c.Ck,c.Ag,c.free,c.flat,c.one,f.Ck,f.Ag,f.free,f.flat,f.one,d.Ck,d.Ag,d.free,d.flat,d.one]) (by simp[c.Ck,c.Ag,c.free,c.flat,c.one,f.Ck,f.Ag,f.free,f.flat,f.one,d.Ck,d.Ag,d.free,d.flat,d.one]):Bt pur run (.w (.call 232)) [r0,z] i [some (Ci 5 F)] h),st 0 (zl h K),sp 0 (NK 5 F)] (by simp[Et,CX]:(FE [(4,K.pv),(5,Ci 5 F),(6,I 0)] [(4,some 5),(5,none),(6,none)]).bind CX=some (.tuple [K.pv,Ci 5 F,I 0]))
def BQ0(c:Hv z)(d:E 230 [.str s] [] (.tuple [r0,z,I z1]) G)(j:z1=0)(f:pur g=false)(k:E g [r0] G K.pv M)(h:E 231 [r0,I 0] M t1.pv M)(c2:(t1.k:Int)=5)(i:E 232 [r0,z] M (Ci 5 F) U):E 155 [.str s,.func g [] []] [] (.tuple [K.pv,Ci 5 F,I 0]) U:=
 Br R22 [st 4 (FR d (by rfl) (by simp[c.Ck,c.Ag,c.free,c.flat,c.one]) (by simp[c.Ck,c.Ag,c.free,c.flat,c.one]) (by simp[c.Ck,c.Ag,c.free,c.flat,c.one]):Bt pur run (.w (.call 230)) [.str s] [] [some (.tuple [r0,z,I z1])] G),st 1 (GK (LA 0 (by rfl) (by simp[c.Ck,c.Ag,c.free,c.flat,c.one])):Bt pur run (.p (.ext 0)) [.tuple [r0,z,I z1]] G [some r0] G),st 0 (GK (LA 1 (by rfl) (by simp[c.Ck,c.Ag,c.free,c.flat,c.one])):Bt pur run (.p (.ext 1)) [.tuple [r0,z,I z1]] G [some z] G),st 0 (GK (LA 2 (by rfl) (by simp[c.Ck,c.Ag,c.free,c.flat,c.one])):Bt pur run (.p (.ext 2)) [.tuple [r0,z,I z1]] G [some (I z1)] G),sp 1 (KL c),sp 2 (Dr .i64 j),st 3 (Oh k f (by simp[c.Ck,c.Ag,c.free,c.flat,c.one]) (by simp[c.Ck,c.Ag,c.free,c.flat,c.one]) (by simp[c.Ck,c.Ag,c.free,c.flat,c.one]):Bt pur run (.w .DC) [.func g [] [],r0] G [some K.pv] M),sp 1 (BD K),st 1 (oW h),sp 4 (Dr .i64 c2),sp 1 (wR K),sp 1 (KL c),st 0 (FR i (by rfl) (by simp[c.Ck,c.Ag,c.free,c.flat,c.one]) (by simp[c.Ck,c.Ag,c.free,c.flat,c.one]) (by simp[c.Ck,c.Ag,c.free,c.flat,c.one]):Bt pur run (.w (.call 232)) [r0,z] M [some (Ci 5 F)] U),st 0 (zl U K),sp 0 (NK 5 F)] (by simp[Et,CX]:(FE [(4,K.pv),(5,Ci 5 F),(6,I 0)] [(4,some 5),(5,none),(6,none)]).bind CX=some (.tuple [K.pv,Ci 5 F,I 0]))
def R8:Rn 110 a110:=rn
def r8(c:E 155 [.str s,.func 156 [] []] [] (.tuple [K.pv,Ci 5 F,I z1]) G):EvE 110 [.str s] (.tuple [K.pv,Ci 5 F,I z1]):=
 Br R8 [st 4 (oC c),st 0 (GK (LA 0 (by rfl) (by simp)):Bt pur run (.p (.ext 0)) [.tuple [K.pv,Ci 5 F,I z1]] [] [some K.pv] []),st 0 (GK (LA 1 (by rfl) (by simp)):Bt pur run (.p (.ext 1)) [.tuple [K.pv,Ci 5 F,I z1]] [] [some (Ci 5 F)] []),st 0 (GK (LA 2 (by rfl) (by simp)):Bt pur run (.p (.ext 2)) [.tuple [K.pv,Ci 5 F,I z1]] [] [some (I z1)] []),sp 0 (IA (I 0) (.str []) (I 0) (I 0) .nils K),sp 0 (NK 5 F)] (by simp[Et,CX]:(FE [(2,K.pv),(3,Ci 5 F),(4,I z1)] [(2,some 5),(3,none),(4,none)]).bind CX=some (.tuple [K.pv,Ci 5 F,I z1]))
end
end Go.Abs.Z

namespace Go.Abs.Z
open Go.Proofs Go.RowKit
mutual

def trP(ls:List Tk):AT->Tr
 |.mk kd tx f k _ ks=>.mk kd tx (match Fh ls ks with | []=>if f<k then(tA ls f:Nat) else(en ls k:Nat) | u::_=>min (if f<k then((tA ls f:Nat):Int) else(en ls k:Nat)) u.st) (en ls k:Nat) ks.isEmpty (Fh ls ks)
def Fh(ls:List Tk):List AT->List Tr
 |[]=>[]
 |x::xs=>trP ls x::Fh ls xs
end
def Su(ls:List Tk):∀xs:List AT,Fh ls xs=xs.map (trP ls)
 |[]=>rfl
 |x::xs=>by rw[Fh,Su ls xs];rfl
def LH(ls:List Tk)(xs:List AT)(x:AT):Fh ls (xs++[x])=Fh ls xs++[trP ls x]:=by simp[Su]
def LJ(ls:List Tk)(xs:List AT):(Fh ls xs).length=xs.length:=by simp[Su]
abbrev rf:PV:=.ref 0 0
abbrev Z0:PV:=.agg [I 0,.str [],I 0,I 0,.nils]
abbrev sl1(a:List (List UInt8)):PV:=slF 1 (a.map PV.str)
section
variable{s:List UInt8}{ls:List Tk}{m:Nat}{B:Sto}{k f:Nat}{D:List AD}
def nd0(H:CG s ls m)(g:f<=k)(d:k<=m)(kd:Nat)(tx:List UInt8)(b:Bool):E 274 [rf,N kd,.str tx,N f,N (en ls f),.nils] (PS4 s ls B k D) (trP ls (.mk kd tx f k b [])).pv (PS4 s ls B k D):=by
 by_cases h:f<k
 ·obtain⟨t,c⟩:=H.at (k:=f) am
  have:=AKI (s:=s) (l:=en ls k) (wr:=wrP (B.length+1) D) (bf:=bfP ls D) (T:=B++arS ls D) (kd:=(kd:Int)) (tx:=tx) (la:=en ls f) (k:=k) am c
  have e:(trP ls (.mk kd tx f k b [])).pv=.agg [N kd,.str tx,N t.a,N (en ls k),.nils]:=by
   rw[trP];simp only[Fh,if_pos h,JI c];rfl
  rw[e];exact this
 ·have a:f=k:=am
  subst a;have:=AKH (s:=s) (ls:=ls) (l:=en ls f) (wr:=wrP (B.length+1) D) (bf:=bfP ls D) (T:=B++arS ls D) (kd:=(kd:Int)) (tx:=tx) (la:=en ls f) (k:=f) (fi:=f) am
  have e:(trP ls (.mk kd tx f f b [])).pv=.agg [N kd,.str tx,N (en ls f),N (en ls f),.nils]:=by
   rw[trP];simp only[Fh,if_neg h];rfl
  rw[e];exact this
def nd1(H:CG s ls m)(l:f<=k)(j:k<=m)(kd:Nat)(tx:List UInt8)(b:Bool)(us:List AT)(i:us≠[]:=by simp):E 274 [rf,N kd,.str tx,N f,N (en ls f),slF 5 (Tr.pvs (Fh ls us))] (PS4 s ls B k D) (trP ls (.mk kd tx f k b us)).pv (PS4 s ls B k D):=by
 cases us with
 |nil=>exact absurd rfl i
 |cons u us=>
  have g:(((Fh ls (u::us)).length:Nat):Int) > 0:=by simp[Fh]
  have d:(Fh ls (u::us))[0]?=some (trP ls u):=rfl;by_cases h:f<k
  ·obtain⟨t,c⟩:=H.at (k:=f) am
   have:=Bv7 (s:=s) (l:=en ls k) (wr:=wrP (B.length+1) D) (bf:=bfP ls D) (T:=B++arS ls D) (kd:=(kd:Int)) (tx:=tx) (la:=en ls f) (k:=k) am c g d
   have e:(trP ls (.mk kd tx f k b (u::us))).pv=.agg [N kd,.str tx,I (min ((t.a:Nat):Int) (trP ls u).st),N (en ls k),slF 5 (Tr.pvs (Fh ls (u::us)))]:=by
    rw[trP];simp only[Fh,if_pos h,JI c];rfl
   rw[e];exact this
  ·have a:f=k:=am
   subst a;have:=Bv6 (s:=s) (ls:=ls) (l:=en ls f) (wr:=wrP (B.length+1) D) (bf:=bfP ls D) (T:=B++arS ls D) (kd:=(kd:Int)) (tx:=tx) (la:=en ls f) (k:=f) (fi:=f) am g d
   have e:(trP ls (.mk kd tx f f b (u::us))).pv=.agg [N kd,.str tx,I (min ((en ls f:Nat):Int) (trP ls u).st),N (en ls f),slF 5 (Tr.pvs (Fh ls (u::us)))]:=by
    rw[trP];simp only[Fh,if_neg h];rfl
   rw[e];exact this
def isB(H:CG s ls m)(e:k<=m)(a:List (List UInt8)){b:Bool}(d:a.contains (wAt s ls k).2=b)(c:(a.all spW.contains&&decide (a.length<1000))=true:=by decide):E 234 [rf,sl1 a] (PS4 s ls B k D) (.bool b) (PS4 s ls B k D):=by
 simp only[Aj,decide_eq_true_eq] at c;have:=p50 (B:=B) (D:=D) H e a c.2 c.1
 rwa [d] at this
def kdT(H:CG s ls m)(b:k<=m)(j:Nat)(a:(wAt s ls k).1=j):E 233 [rf,N j] (PS4 s ls B k D) (.bool true) (PS4 s ls B k D):=by
 have:=p49 (B:=B) (D:=D) H b j
 rwa [decide_eq_true a] at this
def kdF(H:CG s ls m)(b:k<=m)(j:Nat)(a:(wAt s ls k).1≠j):E 233 [rf,N j] (PS4 s ls B k D) (.bool false) (PS4 s ls B k D):=by
 have:=p49 (B:=B) (D:=D) H b j
 rwa [decide_eq_false a] at this
def xW(x:List UInt8)(l:x.length<1000000):E 296 [.str x] [] (.str (dgt x)) []:=by
 have i:∀(n:Nat) (x:List UInt8),x.length=n->n<1000000->LL a72 0 [(0,some (.str x)),(1,some (.int .u8 48))] [] (.exit 0) [(0,some (.str (x.dropWhile (·==48))))] []:=by
  intro n
  induction n with
  |zero=>
   intro x d _;have:x=[]:=Ak.1 d;subst this;exact Y4 (by simp)
  |succ n o=>
   intro x d p;cases x with
   |nil=>simp at d
   |cons c x=>
    by_cases g:c=48
    ·subst g;refine Vj (c2:=48) (s2:=x) (by simp) rfl (by rfl) ?_ (o x (by simpa using d) am)
     have b:(1:Int)<=((((48:UInt8)::x).length:Nat):Int):=by simp;omega
     simp[BM,AQ,QP,b];simpa using b
    ·have:(c::x).dropWhile (·==48)=c::x:=by
      have j:(c==48)=false:=by simpa using g
      rw[List.dropWhile_cons,j];rfl
     rw[this];refine Y3 (c2:=c) (by simp) rfl ?_
     intro e;apply g;have:c.toNat=48:=am
     exact UInt8.toNat_inj.1 this
 have a:E 63 [.str x,.str [48]] [] (.str (x.dropWhile (·==48))) []:=by
  by_cases d:x=[]
  ·subst d;exact AV3 rfl
  ·exact AV2 d (CqJ (i x.length x rfl l))
 unfold dgt;by_cases b:x.dropWhile (·==48)=[]
 ·by_cases h:x=[]
  ·simp only[b,h,ne_eq,not_true_eq_false,and_false,if_false];rw[b,h] at a;subst h;exact AV5 a rfl rfl
  ·simp only[b,h,ne_eq,not_false_eq_true,and_true,if_true];exact AV4 a b h
 ·simp only[b,false_and,if_false];exact AV6 a b
end
section
variable{s:List UInt8}{ls:List Tk}{m:Nat}{B:Sto}{k f:Nat}{D:List AD}{c:NT->Nat->List AD->LF}{r:Rs×Nat×List AD}{p q:Pg}
abbrev G4(s:List UInt8)(ls:List Tk)(m:Nat)(c:NT->Nat->List AD->LF)(r:Rs×Nat×List AD)(p:Pg)(k:Nat)(D:List AD):Prop:=G3 (wAt s ls) m c r p k D
def w5(H:CG s ls m):(wAt s ls m).1=5:=by rw[H.end']
def q53(H:CG s ls m){e:Nat}{t:List UInt8}(h:G4 s ls m c r (.report e t p) k D):E 237 [rf,N e,.str t] (PS4 s ls B k D) (.tuple []) (PS4 s ls B k (rp D e k t))/\G4 s ls m c r p k (rp D e k t):=
 ⟨p53 H h.le (λd a=>Bf (h.ok.2 d a) h.le) (by have:=h.ok.len;have:=h.le;have:=H.big;omega) e t,h.rep⟩
def Ti(H:CG s ls m)(h:G4 s ls m c r (.read p) k D):E 278 [rf] (PS4 s ls B k D) (.str (wAt s ls k).2) (PS4 s ls B (k+1) D)/\G4 s ls m c r p (k+1) D:=by
 obtain⟨a,b⟩:=h.read (w5 H);exact⟨p76 H a,b⟩
def qrd(H:CG s ls m){g:List UInt8->Pg}(h:G4 s ls m c r (Pg.rd g) k D):E 278 [rf] (PS4 s ls B k D) (.str (wAt s ls k).2) (PS4 s ls B (k+1) D)/\G4 s ls m c r (g (wAt s ls k).2) (k+1) D:=by
 obtain⟨a,b⟩:=h.rd (w5 H);exact⟨p76 H a,b⟩
def qac(H:CG s ls m)(x:List UInt8)(h:G4 s ls m c r (Pg.ifW [x] (.read p) q) k D)(d:spW.contains x=true:=by decide):
  (E 285 [rf,.str x] (PS4 s ls B k D) (.bool true) (PS4 s ls B (k+1) D)/\G4 s ls m c r p (k+1) D)\/(E 285 [rf,.str x] (PS4 s ls B k D) (.bool false) (PS4 s ls B k D)/\G4 s ls m c r q k D):=by
 have b:([x].all spW.contains&&decide ([x].length<1000))=true:=by simp[d];simpa using d
 rcases h.ifW with⟨a,h⟩ | ⟨a,h⟩
 ·obtain⟨g,e⟩:=Ti (B:=B) H h;exact .inl ⟨jw (isB H (by have:=e.le;omega) [x] a b) g,e⟩
 ·exact .inr ⟨AWS (isB H h.le [x] a b),h⟩
def qxp(H:CG s ls m)(x:List UInt8)(h:G4 s ls m c r (Pg.xp x p) k D)(i:spW.contains x=true:=by decide):
  ∃b e,k<=b/\E 270 [rf,.str x] (PS4 s ls B k D) (.tuple []) (PS4 s ls B b e)/\G4 s ls m c r p b e:=by
 rcases qac (B:=B) H x h i with⟨a,d⟩ | ⟨a,d⟩
 ·exact⟨_,_,am,jy a,d⟩
 ·obtain⟨j,g⟩:=q53 (B:=B) H d;exact⟨_,_,Ai _,AYM a j,g⟩
def qnm(H:CG s ls m){g:List UInt8->Pg}(h:G4 s ls m c r (Pg.nm g) k D):∃x b e,k<=b/\E 271 [rf] (PS4 s ls B k D) (.str x) (PS4 s ls B b e)/\G4 s ls m c r (g x) b e:=by
 rcases h.ifK with⟨a,h⟩ | ⟨a,h⟩
 ·obtain⟨i,d⟩:=qrd (B:=B) H h;exact⟨_,_,_,am,AYL (kdT H (by have:=d.le;omega) 0 a) i,d⟩
 ·obtain⟨l,j⟩:=q53 (B:=B) H h;exact⟨_,_,_,Ai _,AYK (kdF H h.le 0 a) l,j⟩
def XO(H:CG s ls m)(k:Nat):(wAt s ls k).2.length<1000000:=by
 have:=H.small;unfold wAt;split
 ·simp[wd];omega
 ·simp
def qnum(H:CG s ls m){g:List UInt8->Pg}(h:G4 s ls m c r (Pg.num g) k D):∃x b e,k<=b/\E 289 [rf] (PS4 s ls B k D) (.str x) (PS4 s ls B b e)/\G4 s ls m c r (g x) b e:=by
 rcases h.ifK with⟨a,h⟩ | ⟨a,h⟩
 ·obtain⟨i,d⟩:=qrd (B:=B) H h;exact⟨_,_,_,am,uZ (kdT H (by have:=d.le;omega) 2 a) i (xW _ (XO H k)),d⟩
 ·obtain⟨l,j⟩:=q53 (B:=B) H h;exact⟨_,_,_,Ai _,AVY (kdF H h.le 2 a) l,j⟩
def u7(H:CG s ls m){g:AT->Pg}(h:G4 s ls m c r (Pg.nop g) k D):∃x,E 288 [rf] (PS4 s ls B k D) (trP ls x).pv (PS4 s ls B k D)/\G4 s ls m c r (g x) k D:=
 ⟨_,r124 p75 (nd0 H (Ai _) h.le 0 [] false),h.mrk.bd⟩
def ve(H:CG s ls m){g:AT->Pg}(h:G4 s ls m c r (Pg.miss g) k D):∃x,E 286 [rf] (PS4 s ls B k D) (trP ls x).pv (PS4 s ls B k D)/\G4 s ls m c r (g x) k D:=
 ⟨_,r138 p75 (nd0 H (Ai _) h.le 1 [] false),h.mrk.bd⟩
def qwr(H:CG s ls m){g:AT->Pg}(h:G4 s ls m c r (written g) k D):∃x e i,k<=e/\E 276 [rf] (PS4 s ls B k D) (trP ls x).pv (PS4 s ls B e i)/\G4 s ls m c r (g x) e i:=by
 rcases qac (B:=B) H [58] h with⟨b,h⟩ | ⟨b,h⟩
 ·have d:k+1<=m:=h.le;have h:=h.mrk;rcases qac (B:=B) H NY h with⟨a2,h⟩ | ⟨a2,h⟩
  ·rcases qac (B:=B) H [91] h with⟨a,h⟩ | ⟨a,h⟩
   ·obtain⟨x,e,i,u,a4,h⟩:=qnum (B:=B) H h;obtain⟨o,v,t,a5,h⟩:=qxp (B:=B) H [93] h;exact⟨_,_,_,am,AYE b p75 a2 a a4 a5 (nd0 H am h.le 10 x false),h.bd⟩
   ·exact⟨_,_,_,am,AYD b p75 a2 a (nd0 H am h.le 9 NY false),h.bd⟩
  ·rcases qac (B:=B) H Km h with⟨a,h⟩ | ⟨a,h⟩
   ·exact⟨_,_,_,am,AYC b p75 a2 a (nd0 H am h.le 9 Km false),h.bd⟩
   ·rcases h.ifK with⟨j,h⟩ | ⟨j,h⟩
    ·obtain⟨a4,h⟩:=qrd (B:=B) H h;exact⟨_,_,_,am,AYB b p75 a2 a (kdT H d 0 j) a4 (nd0 H am h.le 9 _ false),h.bd⟩
    ·obtain⟨a4,l⟩:=q53 (B:=B) H h;obtain⟨x,a5,n⟩:=ve (B:=B) H l;exact⟨_,_,_,am,AYA b p75 a2 a (kdF H d 0 j) a4 a5,n⟩
 ·obtain⟨x,a2,h⟩:=u7 (B:=B) H h;exact⟨_,_,_,Ai _,AYF b a2,h⟩
def AYO(H:CG s ls m){g:AT->Pg}(h:G4 s ls m c r (QL g) k D):∃x b i,k<=b/\E 273 [rf] (PS4 s ls B k D) (trP ls x).pv (PS4 s ls B b i)/\G4 s ls m c r (g x) b i:=by
 obtain⟨x,b,i,o,j,h⟩:=qnm (B:=B) H h.mrk;obtain⟨l,n,t,a2,h⟩:=qxp (B:=B) H [58] h;have a:=h.le;rcases h.ifW with⟨d,h⟩ | ⟨d,h⟩
 ·obtain⟨e,h⟩:=qrd (B:=B) H h.mrk;exact⟨_,_,_,am,AYJ p75 j a2 (isB H a [NY,Km] d) p75 e (nd0 H am h.le 9 _ false) (nd1 H am h.le 4 x false [_]),h.bd.bd⟩
 ·obtain⟨e,h⟩:=q53 (B:=B) H h;obtain⟨y,a4,h⟩:=ve (B:=B) H h;exact⟨_,_,_,am,AYI p75 j a2 (isB H a [NY,Km] d) e a4 (nd1 H am h.le 4 x false [_]),h.bd⟩
def AYN(H:CG s ls m){g:AT->Pg}(h:G4 s ls m c r (Qx g) k D):∃x a b,k<=a/\E 287 [rf] (PS4 s ls B k D) (trP ls x).pv (PS4 s ls B a b)/\G4 s ls m c r (g x) a b:=by
 rcases qac (B:=B) H Ow h.mrk with⟨e,h⟩ | ⟨e,h⟩
 ·obtain⟨x,a,b,n,a2,h⟩:=qnm (B:=B) H h;obtain⟨t,i,l,j,d,h⟩:=qwr (B:=B) H h;exact⟨_,_,_,am,AW4 p75 e a2 d (nd1 H am h.le 8 x false [_]),h.bd⟩
 ·obtain⟨x,a,b,n,a2,h⟩:=qnm (B:=B) H h;obtain⟨t,i,l,j,d,h⟩:=qwr (B:=B) H h;exact⟨_,_,_,am,AVZ p75 e a2 d (nd1 H am h.le 7 x false [_]),h.bd⟩
def BQ7(H:CG s ls m){g:AT->Pg}(h:G4 s ls m c r (Jq g) k D):∃x a b,k<=a/\E 316 [rf] (PS4 s ls B k D) (trP ls x).pv (PS4 s ls B a b)/\G4 s ls m c r (g x) a b:=by
 obtain⟨x,a,b,e,d,h⟩:=qnm (B:=B) H h.mrk;exact⟨_,_,_,am,r142 p75 d (nd0 H am h.le 20 x false),h.bd⟩
end
end Go.Abs.Z

namespace Go.Abs.Z
open Go.Proofs Go.RowKit
def exF:Nat->FuncId
 |1=>299
 |2=>309
 |3=>315
 |5=>317
 |6=>318
 |_=>319
def elF:El->FuncId
 |.fd=>273
 |.pa=>287
 |.ex=>299
abbrev fnv(g:FuncId):PV:=.func g [rf] []
def BYX(s:List UInt8)(ls:List Tk)(B:Sto)(q:Nat):Prop:=∀k D,Dq (.ld 1 false) [.ref q 0] (PS4 s ls B k D)=some [some (.ref 0 0)]
def I9:Nat:=2000000000
def EP4(s:List UInt8)(ls:List Tk)(B:Sto)(n:Nat):NT->Nat->List AD->Rs->Nat->List AD->Prop
 |.ex L,k,D,v,g,c=>(L=1\/L=2\/L=3\/L=5\/L=6\/L=7)->E (exF L) [rf] (PS4 s ls B k D) (trP ls v.1).pv (PS4 s ls B g c)
 |.lp L f x,k,D,v,g,c=>(L=1\/L=2\/L=5\/L=6)->f<=k->
   LL kJ 0 [(0,some rf),(1,some (fnv (exF (L+1)))),(2,some (sl1 (opL L))),(6,some Z0),(7,some (N f)),(8,some (N (en ls f))),(9,some (trP ls x).pv)] (PS4 s ls B k D) (.exit 0)
    [(0,some rf),(1,some (fnv (exF (L+1)))),(6,some Z0),(9,some (trP ls v.1).pv)] (PS4 s ls B g c)
 |.tl e d,k,D,v,g,c=>d≠[]->d.length+n<=I9->v.2≠[]/\
   LL p9 0 [(0,some rf),(1,some (fnv (elF e))),(5,some (.slice true 5 (Tr.pvs (Fh ls d))))] (PS4 s ls B k D) (.exit 0)
    [(1,some (fnv (elF e))),(5,some (.slice true 5 (Tr.pvs (Fh ls v.2))))] (PS4 s ls B g c)
 |.bk,k,D,v,g,c=>E 277 [rf] (PS4 s ls B k D) (trP ls v.1).pv (PS4 s ls B g c)
 |.sts d,k,D,v,g,c=>d.length+n<=I9->∀a b:Nat,
   LL kK 0 [(0,some rf),(2,some Z0),(3,some (N a)),(4,some (N b)),(5,some (BI 5 (Tr.pvs (Fh ls d))))] (PS4 s ls B k D) (.exit 0)
    [(0,some rf),(2,some Z0),(3,some (N a)),(4,some (N b)),(5,some (BI 5 (Tr.pvs (Fh ls v.2))))] (PS4 s ls B g c)
 |.st,k,D,v,g,c=>E 290 [rf] (PS4 s ls B k D) (trP ls v.1).pv (PS4 s ls B g c)
 |.br,k,D,v,g,c=>[wIf].contains (wAt s ls k).2=true->E 298 [rf] (PS4 s ls B k D) (trP ls v.1).pv (PS4 s ls B g c)
 |.sk f,k,D,_,g,c=>∀b:Nat,
   LL RO 0 [(0,some rf),(2,some Z0),(7,some (N f)),(8,some (N b))] (PS4 s ls B k D) (.exit 1) [(0,some rf),(2,some Z0),(7,some (N f)),(8,some (N b))] (PS4 s ls B g c)
 |.sp,k,D,_,g,c=>∀f b q:Nat,f<k->BYX s ls B q->
   LL Wp 0 [(0,some rf),(1,some (.func 239 [] [.ref q 0])),(4,some Z0),(5,some (N f)),(6,some (N b))] (PS4 s ls B k D) (.exit 0) [(0,some rf),(4,some Z0),(5,some (N f)),(6,some (N b))] (PS4 s ls B g c)
 |.pg d,k,D,v,g,c=>d.length+n<=I9->∀T:Sto,BYX s ls B (T.length+1)->
   LL a156 0 [(1,some (.ref (T.length+1) 0)),(2,some Z0),(3,some (.agg [I 2,.str [],I 0,N s.length,BI 5 (Tr.pvs (Fh ls d))]))] (PS4 s ls B k D) (.exit 0)
    [(1,some (.ref (T.length+1) 0)),(2,some Z0),(3,some (.agg [I 2,.str [],I 0,N s.length,BI 5 (Tr.pvs (Fh ls v.2))]))] (PS4 s ls B g c)
section
variable{s:List UInt8}{ls:List Tk}{m n:Nat}{B:Sto}{k f:Nat}{D:List AD}{c:NT->Nat->List AD->LF}{r:Rs×Nat×List AD}{p q:Pg}
def OkE(s:List UInt8)(ls:List Tk)(m:Nat)(B:Sto)(n:Nat)(c:NT->Nat->List AD->LF):Prop:=
 OkI m c/\∀x k D v b a,c x k D=some (v,b,a)->k<=m->Dok k D->EP4 s ls B n x k D v b a
def qex(H:CG s ls m)(d:OkE s ls m B n c)(L:Nat)(j:L=1\/L=2\/L=3\/L=5\/L=6\/L=7){g:AT->Pg}(h:G4 s ls m c r (Pg.cl (.ex L) g) k D):
  ∃x a b,k<=a/\E (exF L) [rf] (PS4 s ls B k D) (trP ls x).pv (PS4 s ls B a b)/\G4 s ls m c r (g x) a b:=by
 obtain⟨v,a,b,e,i,l⟩:=h.cl d.1;exact⟨v.1,a,b,i,d.2 _ _ _ _ _ _ e h.le h.ok j,l⟩
def qe1(H:CG s ls m)(d:OkE s ls m B n c){g:AT->Pg}(h:G4 s ls m c r (Pg.cl (.ex 1) g) k D):
  ∃x a b,k<=a/\E 299 [rf] (PS4 s ls B k D) (trP ls x).pv (PS4 s ls B a b)/\G4 s ls m c r (g x) a b:=qex H d 1 (by simp) h
def qbk(H:CG s ls m)(d:OkE s ls m B n c){g:AT->Pg}(h:G4 s ls m c r (Pg.cl .bk g) k D):
  ∃x a b,k<=a/\E 277 [rf] (PS4 s ls B k D) (trP ls x).pv (PS4 s ls B a b)/\G4 s ls m c r (g x) a b:=by
 obtain⟨v,a,b,e,j,i⟩:=h.cl d.1;exact⟨v.1,a,b,j,d.2 _ _ _ _ _ _ e h.le h.ok,i⟩
def AkM(H:CG s ls m)(d:OkE s ls m B n c)(e:El){g:AT->Pg}(h:G4 s ls m c r (Xy e g) k D):
  ∃x a b,k<=a/\E (elF e) [rf] (PS4 s ls B k D) (trP ls x).pv (PS4 s ls B a b)/\G4 s ls m c r (g x) a b:=by
 cases e with
 |fd=>exact AYO H h
 |pa=>exact AYN H h
 |ex=>exact qe1 H d h
def vk(e:El):pur (elF e)=false:=by cases e<;>rfl
def l7(H:CG s ls m)(d:OkE s ls m B n c)(z:n+1<=I9)(e:El){g:List AT->Pg}(h:G4 s ls m c r (Px e g) k D):
  ∃l a b,k<=a/\l≠[]/\E 272 [rf,fnv (elF e)] (PS4 s ls B k D) (slF 5 (Tr.pvs (Fh ls l))) (PS4 s ls B a b)/\G4 s ls m c r (g l) a b:=by
 obtain⟨x,a,b,C,t,h⟩:=AkM H d e h;obtain⟨v,i,w,y,A,u⟩:=h.call d.1;obtain⟨o,j⟩:=d.2 _ _ _ _ _ _ y h.le h.ok (by simp) (by simp;omega)
 exact⟨v.2,i,w,am,o,r105 (vk e) t j,u⟩
def AkN(H:CG s ls m)(y:OkE s ls m B n c)(x:n+1<=I9){g:List AT->Pg}(t:(wAt s ls k).2=[40])(h:G4 s ls m c r (UR g) k D):
  ∃l b i,k<=b/\((l=[]/\E 312 [rf] (PS4 s ls B k D) .nils (PS4 s ls B b i))\/(l≠[]/\E 312 [rf] (PS4 s ls B k D) (slF 5 (Tr.pvs (Fh ls l))) (PS4 s ls B b i)))/\G4 s ls m c r (g l) b i:=by
 have v:=h.le;obtain⟨C,h⟩:=Ti (B:=B) H h;have a2:E 270 [rf,.str [40]] (PS4 s ls B k D) (.tuple []) (PS4 s ls B (k+1) D):=jy (jw (isB H v [[40]] (by rw[t];rfl)) C)
 have a:=h.le;rcases h.ifW with⟨d,h⟩ | ⟨d,h⟩
 ·obtain⟨j,o,u,e,h⟩:=qxp (B:=B) H [41] h;exact⟨[],j,o,am,.inl ⟨rfl,AWM a2 (isB H a [[41]] d) e⟩,h⟩
 ·obtain⟨l,j,o,u,A,e,h⟩:=l7 H y x .ex h;obtain⟨z,w,F,a4,h⟩:=qxp (B:=B) H [41] h;exact⟨l,z,w,am,.inr ⟨A,AWL a2 (isB H a [[41]] d) e a4⟩,h⟩
def u6(H:CG s ls m)(j:OkE s ls m B n c){g:AT->Pg}(h:G4 s ls m c r (OG g) k D):
  ∃x b d,k<=b/\E 313 [rf] (PS4 s ls B k D) (trP ls x).pv (PS4 s ls B b d)/\G4 s ls m c r (g x) b d:=by
 obtain⟨v,b,d,w,e,h⟩:=BQ7 (B:=B) H h.mrk;rcases qac (B:=B) H [91] h with⟨a2,h⟩ | ⟨a2,h⟩
 ·obtain⟨y,i,l,o,a,h⟩:=qe1 H j h;obtain⟨t,u,z,a4,h⟩:=qxp (B:=B) H [93] h;exact⟨_,_,_,am,AWK p75 e a2 a a4 (nd1 H am h.le 21 [] false [_,_]),h.bd⟩
 ·rcases qac (B:=B) H [46] h with⟨a,h⟩ | ⟨a,h⟩
  ·obtain⟨x,i,l,o,a4,h⟩:=qnm (B:=B) H h;exact⟨_,_,_,am,AWJ p75 e a2 a a4 (nd1 H am h.le 22 x false [_]),h.bd⟩
  ·exact⟨_,_,_,am,AWI p75 e a2 a,h⟩
def exT(H:CG s ls m)(b:k<m)(x:List UInt8)(d:[x].contains (wAt s ls k).2=true)(a:spW.contains x=true:=by decide):E 270 [rf,.str x] (PS4 s ls B k D) (.tuple []) (PS4 s ls B (k+1) D):=
 jy (jw (isB H (DJ b) [x] d (by simp[a];simpa using a)) (p76 H b))
def AxE(H:CG s ls m)(j:OkE s ls m B n c)(e:n+1<=I9){g:AT->Pg}(i:[LG].contains (wAt s ls k).2=true)(h:G4 s ls m c r (Pd g) k D):
  ∃x a b,k<=a/\E 235 [rf] (PS4 s ls B k D) (trP ls x).pv (PS4 s ls B a b)/\G4 s ls m c r (g x) a b:=by
 have h:=(h.mrk.read (w5 H)).2;have t:=exT (B:=B) (D:=D) (k:=k) H (by have:=h.le;omega) LG i
 obtain⟨x,a,b,G,a2,h⟩:=qnm (B:=B) H h;obtain⟨u,F,v,o,h⟩:=qxp (B:=B) H [123] h;obtain⟨l,A,I,C,d,a4,h⟩:=l7 H j e .fd h;obtain⟨z,w,y,a5,h⟩:=qxp (B:=B) H [125] h;exact⟨_,_,_,am,r51 p75 t a2 o a4 a5 (nd1 H am h.le 3 x false l d),h.bd⟩
def AxF(H:CG s ls m)(u:OkE s ls m B n c)(v:n+1<=I9){g:AT->Pg}(h:G4 s ls m c r (Pk g) k D):
  ∃x b e,k<=b/\E 275 [rf] (PS4 s ls B k D) (trP ls x).pv (PS4 s ls B b e)/\G4 s ls m c r (g x) b e:=by
 obtain⟨b,e,C,i,h⟩:=qxp (B:=B) H [40] h.mrk;have a:=h.le;rcases h.ifW with⟨d,h⟩ | ⟨d,h⟩
 ·obtain⟨j,y,t,a2,h⟩:=qxp (B:=B) H [41] h;exact⟨_,_,_,am,AYH p75 i (isB H a [[41]] d) a2 (nd0 H am h.le 6 [] true),h.bd⟩
 ·obtain⟨l,j,y,t,w,a2,h⟩:=l7 H u v .pa h;obtain⟨A,z,F,o,h⟩:=qxp (B:=B) H [41] h;exact⟨_,_,_,am,AYG p75 i (isB H a [[41]] d) a2 o (nd1 H am h.le 6 [] true l w),h.bd⟩
def BQ8(H:CG s ls m)(i:OkE s ls m B n c)(j:n+1<=I9){g:AT->Pg}(l:[IQ].contains (wAt s ls k).2=true)(h:G4 s ls m c r (eO g) k D):
  ∃x d e,k<=d/\E 236 [rf] (PS4 s ls B k D) (trP ls x).pv (PS4 s ls B d e)/\G4 s ls m c r (g x) d e:=by
 have h:=(h.mrk.read (w5 H)).2;have u:=exT (B:=B) (D:=D) (k:=k) H (by have:=h.le;omega) IQ l
 obtain⟨x,d,e,I,a2,h⟩:=qnm (B:=B) H h;obtain⟨a,v,G,y,o,h⟩:=AxF H i j h;obtain⟨t,F,w,J,a4,h⟩:=qwr (B:=B) H h;obtain⟨b,C,z,A,a5,h⟩:=qbk H i h;exact⟨_,_,_,am,r52 p75 u a2 o a4 a5 (nd1 H am h.le 5 x false [_,_,_]),h.bd⟩
def Qu(H:CG s ls m)(a:f<=k){kd:Nat}{tx:List UInt8}(h:G4 s ls m c r (Pg.nod kd tx f []) k D):∃x,r=((x,[]),k,D)/\E 274 [rf,N kd,.str tx,N f,N (en ls f),.nils] (PS4 s ls B k D) (trP ls x).pv (PS4 s ls B k D):=
 ⟨_,h.bd.ret,nd0 H a h.le kd tx true⟩
def GY(H:CG s ls m)(b:f<=k){kd:Nat}{tx:List UInt8}{us:List AT}(a:us≠[])(h:G4 s ls m c r (Pg.nod kd tx f us) k D):
  ∃x,r=((x,[]),k,D)/\E 274 [rf,N kd,.str tx,N f,N (en ls f),slF 5 (Tr.pvs (Fh ls us))] (PS4 s ls B k D) (trP ls x).pv (PS4 s ls B k D):=
 ⟨_,h.bd.ret,nd1 H b h.le kd tx true us a⟩
def qlv4(H:CG s ls m)(i:OkE s ls m B n c)(d:E 285 [rf,.str Ox] (PS4 s ls B k D) (.bool false) (PS4 s ls B k D))(h:G4 s ls m c r wM k D):E 315 [rf] (PS4 s ls B k D) (trP ls r.1.1).pv (PS4 s ls B r.2.1 r.2.2):=by
 obtain⟨x,u,w,A,g,h⟩:=qex H i 5 (by simp) h.mrk
 have a:=h.le;rcases h.ifW with⟨b,h⟩ | ⟨b,h⟩
 ·obtain⟨a2,h⟩:=qrd (B:=B) H h;obtain⟨y,t,z,v,l,h⟩:=qex H i 5 (by simp) h
  obtain⟨C,o,j⟩:=GY H am (by simp) h
  rw[o];exact AWU p75 d g (isB H a (opL 4) b) a2 l j
 ·have e:=h.ret;rw[e];exact AWT p75 d g (isB H a (opL 4) b)
def zb(H:CG s ls m)(j:k<m){b:Bool}(h:((wAt s ls (k+1)).2==[40])=b):E 311 [rf,.str [40]] (PS4 s ls B k D) (.bool b) (PS4 s ls B k D):=by
 obtain⟨t,g⟩:=H.at (k:=k+1) am
 have d:=p47 (B:=B) (D:=D) H (DJ j) (j:=1) am (t:=t) (by rw[show min (k+1) m=k+1 by omega];exact g)
 have a:=BXE (k:=k) (B:=B) (D:=D) H g;rw[JU g] at h;by_cases l:t.k=3
 ·have:=AWO (w:=[40]) d am a
  rwa [show(wd s t==[40])=b from h] at this
 ·have i:wd s t≠[40]:=λe=>l (H.par _ t g e)
  have:b=false:=by rw[<-h];simpa using i
  rw[this];exact AWN d am
def BQ9(H:CG s ls m)(C:OkE s ls m B n c)(J:n+1<=I9)(h:G4 s ls m c r eQ k D):E 320 [rf] (PS4 s ls B k D) (trP ls r.1.1).pv (PS4 s ls B r.2.1 r.2.2):=by
 have g:=h.le;rcases h.mrk.ifK with⟨w,h⟩ | ⟨w,h⟩
 ·obtain⟨G,h⟩:=qrd (B:=B) H h;obtain⟨j,d,b⟩:=Qu H am h
  rw[d];exact AKZ p75 (kdT H g 2 w) (uZ (kdT H g 2 w) G (xW _ (XO H k))) b
 have a2:=kdF (B:=B) (D:=D) H g 2 w;rcases h.ifW with⟨F,h⟩ | ⟨F,h⟩
 ·obtain⟨G,h⟩:=qrd (B:=B) H h;obtain⟨j,d,b⟩:=Qu H am h
  rw[d];exact AKY p75 a2 (isB H g [IP,Ho] F) G b
 have i:=isB (B:=B) (D:=D) H g [IP,Ho] F;have h:=h.look;by_cases a:(wAt s ls k).1=0
 ·have t:=H.lt g am
  have a4:=kdT (B:=B) (D:=D) H g 0 a;by_cases u:(wAt s ls (k+1)).2=[40]
  ·rw[if_pos ⟨a,u⟩] at h;have a5:=zb (B:=B) (D:=D) H t (b:=true) (by rw[u];rfl)
   obtain⟨a6,h⟩:=qrd (B:=B) H h;obtain⟨l,y,z,A,a7,h⟩:=AkN H C J u h;rcases a7 with⟨rfl,a7⟩ | ⟨I,a7⟩
   ·obtain⟨j,d,b⟩:=Qu H am h
    rw[d];exact AKV p75 a2 i a4 a5 a6 a7 b
   ·obtain⟨j,d,b⟩:=GY H am I h
    rw[d];exact AKU p75 a2 i a4 a5 a6 a7 b
  ·rw[if_neg (λx=>u x.2),if_pos a] at h
   have a5:=zb (B:=B) (D:=D) H t (b:=false) (by simpa using u)
   obtain⟨x,y,z,A,a6,h⟩:=u6 H C h;have e:=h.ret;rw[e];exact AKX p75 a2 i a4 a5 a6
 ·rw[if_neg (λx=>a x.1),if_neg a] at h
  have a4:=kdF (B:=B) (D:=D) H g 0 a;rcases qac (B:=B) H [91] h with⟨a5,h⟩ | ⟨a5,h⟩
  ·obtain⟨l,y,z,A,I,a6,h⟩:=l7 H C J .ex h;obtain⟨M,L,K,a7,h⟩:=qxp (B:=B) H [93] h;obtain⟨j,d,b⟩:=GY H am I h
   rw[d];exact AKW p75 a2 i a4 a5 a6 a7 b
  ·rcases qac (B:=B) H Oy h with⟨a6,h⟩ | ⟨a6,h⟩
   ·obtain⟨y,z,A,a7,h⟩:=qxp (B:=B) H [40] h;obtain⟨v,M,L,K,o,h⟩:=BQ7 (B:=B) H h;obtain⟨O,N,P,a9,h⟩:=qxp (B:=B) H [41] h;obtain⟨j,d,b⟩:=GY H am (by simp) h
    rw[d];exact AKT p75 a2 i a4 a5 a6 a7 o a9 b
   ·rcases qac (B:=B) H [40] h with⟨a7,h⟩ | ⟨a7,h⟩
    ·obtain⟨x,y,z,A,o,h⟩:=qe1 H C h;obtain⟨M,L,K,a9,h⟩:=qxp (B:=B) H [41] h;have e:=h.ret;rw[e];exact AKS p75 a2 i a4 a5 a6 a7 o a9
    ·obtain⟨o,h⟩:=q53 (B:=B) H h;obtain⟨x,a9,h⟩:=ve (B:=B) H h;have e:=h.ret;rw[e];exact AKR p75 a2 i a4 a5 a6 a7 o a9
end
section
variable{s:List UInt8}{ls:List Tk}{m n:Nat}{B:Sto}{k f:Nat}{D:List AD}{c:NT->Nat->List AD->LF}{r:Rs×Nat×List AD}{p q:Pg}
def Bj1{x y z:List UInt8}(a:[x].contains z=false)(b:[y].contains z=false):[x,y].contains z=false:=by
 simp only[BO,Cr,Db] at a b ⊢;simp[a,b]
def Bj3{x y z:List UInt8}(a:[x].contains z=true):[x,y].contains z=true:=by
 simp only[BO,Cr,Db] at a ⊢;simp[a]
def Bj2{x y z:List UInt8}(a:[y].contains z=true):[x,y].contains z=true:=by
 simp only[BO,Cr,Db] at a ⊢;simp[a]
def qsv(H:CG s ls m)(a:OkE s ls m B n c)(b:[Ow].contains (wAt s ls k).2=true)(h:G4 s ls m c r svP k D):E 297 [rf] (PS4 s ls B k D) (trP ls r.1.1).pv (PS4 s ls B r.2.1 r.2.2):=by
 have h:=(h.mrk.read (w5 H)).2;have g:=exT (B:=B) (D:=D) (k:=k) H (by have:=h.le;omega) Ow b
 obtain⟨x,l,o,J,a2,h⟩:=qnm (B:=B) H h;obtain⟨t,i,I,G,d,h⟩:=qwr (B:=B) H h;obtain⟨F,w,L,a4,h⟩:=qxp (B:=B) H [61] h;obtain⟨v,j,A,C,a5,h⟩:=qe1 H a h;obtain⟨K,z,u,a6,h⟩:=qxp (B:=B) H [59] h;obtain⟨y,e,a7⟩:=GY (B:=B) H (f:=k) am (by simp) h
 rw[e];exact r73 p75 g a2 d a4 a5 a6 a7
def qfor(H:CG s ls m)(a:OkE s ls m B n c)(i:[Sm].contains (wAt s ls k).2=true)(h:G4 s ls m c r AUO k D):E 300 [rf] (PS4 s ls B k D) (trP ls r.1.1).pv (PS4 s ls B r.2.1 r.2.2):=by
 have h:=(h.mrk.read (w5 H)).2;have j:=exT (B:=B) (D:=D) (k:=k) H (by have:=h.le;omega) Sm i
 obtain⟨x,z,C,O,a2,h⟩:=qnm (B:=B) H h;obtain⟨l,N,M,d,h⟩:=qxp (B:=B) H [61] h;obtain⟨u,A,G,o,a4,h⟩:=qe1 H a h;obtain⟨t,J,K,a5,h⟩:=qxp (B:=B) H wTo h;obtain⟨v,P,I,F,a6,h⟩:=qe1 H a h;obtain⟨b,L,Q,w,a7,h⟩:=qbk H a h;obtain⟨y,e,g⟩:=GY (B:=B) H (f:=k) am (by simp) h
 rw[e];exact r79 p75 j a2 d a4 a5 a6 a7 g
def BQB(H:CG s ls m)(a:k<=m){b:Bool}(h:aM (wAt s ls k)=b):E 310 [rf] (PS4 s ls B k D) (.bool b) (PS4 s ls B k D):=by
 subst h;unfold aM;by_cases d:(wAt s ls k).1=0
 ·have e:((wAt s ls k).1==0||(wAt s ls k).1==2||kC.contains (wAt s ls k).2)=true:=by simp[d]
  rw[e];exact AWR (kdT H a 0 d)
 ·by_cases g:(wAt s ls k).1=2
  ·have e:((wAt s ls k).1==0||(wAt s ls k).1==2||kC.contains (wAt s ls k).2)=true:=by simp[g]
   rw[e];exact AWQ (kdF H a 0 d) (kdT H a 2 g)
  ·have e:((wAt s ls k).1==0||(wAt s ls k).1==2||kC.contains (wAt s ls k).2)=kC.contains (wAt s ls k).2:=by simp[d,g]
   rw[e];exact AWP (kdF H a 0 d) (kdF H a 2 g) (isB H a kC rfl)
def AxD(H:CG s ls m)(t:OkE s ls m B n c)(l:[Hd].contains (wAt s ls k).2=true)(h:G4 s ls m c r Ye k D):E 301 [rf] (PS4 s ls B k D) (trP ls r.1.1).pv (PS4 s ls B r.2.1 r.2.2):=by
 have i:=isB (B:=B) (D:=D) H h.le [Hd] l;obtain⟨g,h⟩:=Ti (B:=B) H h.mrk;have b:=h.le;have h:=h.look;cases a:aM (wAt s ls (k+1)) with
 |true=>
  rw[a,if_pos rfl] at h;obtain⟨x,v,z,w,a2,h⟩:=qe1 H t h;obtain⟨o,j,u,d,h⟩:=qxp (B:=B) H [59] h;obtain⟨y,e,a4⟩:=GY (B:=B) H (f:=k) am (by simp) h
  rw[e];exact Bv4 p75 i g (BQB H b a) a2 d a4
 |false=>
  rw[a,if_neg (by simp)] at h
  obtain⟨x,a2,h⟩:=u7 (B:=B) H h;obtain⟨o,j,u,d,h⟩:=qxp (B:=B) H [59] h;obtain⟨y,e,a4⟩:=GY (B:=B) H (f:=k) am (by simp) h
  rw[e];exact Bv3 p75 i g (BQB H b a) a2 d a4
def AxG(H:CG s ls m)(a:OkE s ls m B n c)(b:[Hd].contains (wAt s ls k).2=false)(h:G4 s ls m c r aO k D):E 301 [rf] (PS4 s ls B k D) (trP ls r.1.1).pv (PS4 s ls B r.2.1 r.2.2):=by
 have g:=isB (B:=B) (D:=D) H h.le [Hd] b;obtain⟨i,h⟩:=Ti (B:=B) H h.mrk;obtain⟨x,j,l,u,a2,h⟩:=qe1 H a h;obtain⟨o,v,t,d,h⟩:=qxp (B:=B) H [59] h;obtain⟨y,e,a4⟩:=GY (B:=B) H (f:=k) am (by simp) h
 rw[e];exact Bv5 p75 g i a2 d a4
def AxC(H:CG s ls m)(i:OkE s ls m B n c)(j:n+1<=I9)(M:(wAt s ls k).1=0)(h:G4 s ls m c r X6 k D):E 302 [rf] (PS4 s ls B k D) (trP ls r.1.1).pv (PS4 s ls B r.2.1 r.2.2):=by
 have d:=H.lt h.le am
 have h:=h.mrk.look;by_cases b:(wAt s ls (k+1)).2=[40]
 ·rw[if_pos b] at h;have g:=zb (B:=B) (D:=D) H d (b:=true) (by rw[b];rfl)
  obtain⟨a2,h⟩:=qrd (B:=B) H h;obtain⟨l,A,o,z,a,h⟩:=AkN H i j b h;obtain⟨C,u,w,a4,h⟩:=qxp (B:=B) H [59] h;rcases a with⟨rfl,a⟩ | ⟨t,a⟩
  ·obtain⟨y,e,a5⟩:=Qu (B:=B) H (f:=k) am h
   rw[e];exact Bv1 p75 g a2 a a4 a5
  ·obtain⟨y,e,a5⟩:=GY (B:=B) H (f:=k) am t h
   rw[e];exact Bv0 p75 g a2 a a4 a5
 ·rw[if_neg b] at h;have g:=zb (B:=B) (D:=D) H d (b:=false) (by simpa using b)
  obtain⟨x,F,I,L,a2,h⟩:=u6 H i h;obtain⟨A,o,z,a,h⟩:=qxp (B:=B) H [61] h;obtain⟨v,C,u,w,a4,h⟩:=qe1 H i h;obtain⟨K,G,J,a5,h⟩:=qxp (B:=B) H [59] h;obtain⟨y,e,a6⟩:=GY (B:=B) H (f:=k) am (by simp) h
  rw[e];exact Bv2 p75 g a2 a a4 a5 a6
def qst(H:CG s ls m)(d:OkE s ls m B n c)(C:n+1<=I9)(h:G4 s ls m c r (prog .st) k D):E 290 [rf] (PS4 s ls B k D) (trP ls r.1.1).pv (PS4 s ls B r.2.1 r.2.2):=by
 have a:=h.le;rcases h.ifW with⟨o,h⟩ | ⟨o,h⟩
 ·exact BwO (isB H a [Ow] o) (qsv H d o h)
 have g:=isB (B:=B) (D:=D) H a [Ow] o;rcases h.ifW with⟨t,h⟩ | ⟨t,h⟩
 ·exact BwN g (isB H a [wIf] t) (d.2 _ _ _ _ _ _ h.lst h.le h.ok t)
 have a2:=isB (B:=B) (D:=D) H a [wIf] t;rcases h.ifW with⟨z,h⟩ | ⟨z,h⟩
 ·obtain⟨F,h⟩:=Ti (B:=B) H h.mrk;obtain⟨u,I,J,M,L,h⟩:=qe1 H d h;obtain⟨b,P,O,Q,G,h⟩:=qbk H d h;obtain⟨y,e,x⟩:=GY (B:=B) H (f:=k) am (by simp) h
  rw[e];exact BwM g a2 (isB H a [Mg] z) p75 F L G x
 have i:=isB (B:=B) (D:=D) H a [Mg] z;rcases h.ifW with⟨w,h⟩ | ⟨w,h⟩
 ·exact BwL g a2 i (isB H a [Sm] w) (qfor H d w h)
 have a4:=isB (B:=B) (D:=D) H a [Sm] w;rcases h.ifW with⟨j,h⟩ | ⟨j,h⟩
 ·exact AkL g a2 i a4 (isB H a [Hd,JA] (Bj3 j)) (AxD H d j h)
 rcases h.ifW with⟨A,h⟩ | ⟨A,h⟩
 ·exact AkL g a2 i a4 (isB H a [Hd,JA] (Bj2 A)) (AxG H d j h)
 have a5:=isB (B:=B) (D:=D) H a [Hd,JA] (Bj1 j A);rcases h.ifK with⟨l,h⟩ | ⟨l,h⟩
 ·exact BwK g a2 i a4 a5 (kdT H a 0 l) (AxC H d C l h)
 obtain⟨a6,h⟩:=q53 (B:=B) H h;obtain⟨v,I,J,N,M,K⟩:=h.mrk.call d.1;obtain⟨y,e,x⟩:=Qu (B:=B) H (f:=k) am K
 rw[e];exact BwJ g a2 i a4 a5 (kdF H a 0 l) a6 p75 (d.2 _ _ _ _ _ _ N h.le h.ok (en ls k)) x
def BZ2(H:CG s ls m):∀n,n<=I9->OkE s ls m B n (runN (wAt s ls) n)
 |0,_=>⟨Gt (w5 H) 0,λx k D v W Y h=>by cases h⟩
 |n+1,hn=>by
  have g:=BZ2 H n am
  refine⟨Gt (w5 H) (n+1),λx k D v W Y O j hD=>?_⟩
  have h:G4 s ls m (runN (wAt s ls) n) (v,W,Y) (prog x) k D:=⟨O,j,hD⟩;clear O;cases x with
  |ex L=>
   intro R
   have M:∀(L:Nat),(L=1\/L=2\/L=5\/L=6)->G4 s ls m (runN (wAt s ls) n) (v,W,Y) (Pg.mrk λf=>Pg.cl (.ex (L+1)) λx=>Pg.lst (.lp L f x)) k D->
     ∃U1:Tr,∃w A,E (exF (L+1)) [rf] (PS4 s ls B k D) U1.pv (PS4 s ls B w A)/\
      LL kJ 0 [(0,some rf),(1,some (fnv (exF (L+1)))),(2,some (sl1 (opL L))),(6,some Z0),(7,some (N k)),(8,some (N (en ls k))),(9,some U1.pv)] (PS4 s ls B w A) (.exit 0)
       [(0,some rf),(1,some (fnv (exF (L+1)))),(6,some Z0),(9,some (trP ls v.1).pv)] (PS4 s ls B W Y):=by
    intro L R h;obtain⟨x,w,A,G,d,h⟩:=qex H g (L+1) am h.mrk
    exact⟨_,_,_,d,g.2 _ _ _ _ _ _ h.lst h.le h.ok R G⟩
   rcases R with rfl | rfl | rfl | rfl | rfl | rfl
   ·obtain⟨U,w,A,d,a2⟩:=M 1 (by simp) h
    exact r35 (r69 p75 rfl d a2)
   ·obtain⟨U,w,A,d,a2⟩:=M 2 (by simp) h
    exact r70 (r69 p75 rfl d a2)
   ·rcases qac (B:=B) H Ox h.mrk with⟨d,h⟩ | ⟨d,h⟩
    ·obtain⟨x,w,A,G,a2,h⟩:=qex H g 3 (by simp) h
     obtain⟨y,e,t⟩:=GY (B:=B) H (f:=k) am (by simp) h
     cases e;exact AWV p75 d a2 t
    ·exact qlv4 H g d h
   ·obtain⟨U,w,A,d,a2⟩:=M 5 (by simp) h
    exact r141 (r69 p75 rfl d a2)
   ·obtain⟨U,w,A,d,a2⟩:=M 6 (by simp) h
    exact r152 (r69 p75 rfl d a2)
   ·rcases qac (B:=B) H [45] h.mrk with⟨d,h⟩ | ⟨d,h⟩
    ·obtain⟨x,w,A,G,a2,h⟩:=qex H g 7 (by simp) h
     obtain⟨y,e,t⟩:=GY (B:=B) H (f:=k) am (by simp) h
     cases e;exact AV1 p75 d a2 t
    ·exact AV0 p75 d (BQ9 H g hn h)
  |lp L f x=>
   intro R hf;have hpg:pur (exF (L+1))=false:=by rcases R with rfl | rfl | rfl | rfl<;>rfl
   have V:((opL L).all spW.contains&&decide ((opL L).length<1000))=true:=by rcases R with rfl | rfl | rfl | rfl<;>decide
   rcases G3.ifW (show G4 s ls m (runN (wAt s ls) n) (v,W,Y) (Pg.ifW (opL L) (Pg.rd λo=>Pg.cl (.ex (L+1)) λy=>Pg.bd 29 o f false [x,y] λz=>Pg.lst (.lp L f z)) (.ret (x,[]))) k D from h) with⟨i,h⟩ | ⟨i,h⟩
   ·have d:=isB (B:=B) (D:=D) H j (opL L) i V;obtain⟨a2,h⟩:=qrd (B:=B) H h;obtain⟨y,w,A,G,t,h⟩:=qex H g (L+1) am h
    have h:=h.bd;exact Yn d a2 hpg t (nd1 H am h.le 29 _ false [x,y]) (g.2 _ _ _ _ _ _ h.lst h.le h.ok R am)
   ·have e:=h.ret;cases e;exact dE (isB (B:=B) (D:=D) H j (opL L) i V)
  |tl e Q=>
   intro hne X;rcases qac (B:=B) H [44] h with⟨d,h⟩ | ⟨d,h⟩
   ·obtain⟨x,w,A,G,a2,h⟩:=AkM H g e h;obtain⟨b1,b2⟩:=g.2 _ _ _ _ _ _ h.lst h.le h.ok (by simp) (by simp;omega)
    rw[LH] at b2;exact⟨b1,We d (vk e) a2 (by rw[LJ];unfold I9 at X;unfold Bo;omega) b2⟩
   ·have e:=h.ret;cases e;exact⟨hne,ZA d⟩
  |bk=>
   rcases qac (B:=B) H [123] h.mrk with⟨d,h⟩ | ⟨d,h⟩
   ·obtain⟨u,w,A,P,G,h⟩:=h.call g.1;have a2:=g.2 _ _ _ _ _ _ P (by have:=h.le;omega) (hD.le am) (by simp;omega) k (en ls k)
    obtain⟨k3,D3,l3,t,h⟩:=qxp (B:=B) H [125] h;by_cases hu:u.2=[]
    ·rw[hu] at a2 h;obtain⟨y,e,a4⟩:=Qu (B:=B) H (f:=k) am h
     cases e;exact AkI p75 d a2 t a4
    ·obtain⟨y,e,a4⟩:=GY (B:=B) H (f:=k) am hu h
     cases e;refine AkI p75 d a2 t ?_
     have:Ci 5 (Tr.pvs (Fh ls u.2))=slF 5 (Tr.pvs (Fh ls u.2)):=by
      cases hu2:u.2 with
      |nil=>exact absurd hu2 hu
      |cons a l=>rfl
     rw[this];exact a4
   ·obtain⟨a2,h⟩:=q53 (B:=B) H h;have hle:=h.le;have e:=h.bd.ret;cases e;exact Bv8 p75 d a2 (nd0 H (Ai _) hle 11 [] false)
  |sts Q=>
   intro X a b;rcases h.ifW with⟨i,h⟩ | ⟨i,h⟩
   ·have e:=h.ret;cases e;exact dC (isB H j J2 i)
   ·rcases h.ifK with⟨C,h⟩ | ⟨C,h⟩
    ·have e:=h.ret;cases e;exact dB (isB H j J2 i) (kdT H j 5 C)
    ·obtain⟨u,w,A,P,G,h⟩:=h.cl g.1;have d:=g.2 _ _ _ _ _ _ P j hD;have a2:=g.2 _ _ _ _ _ _ h.lst h.le h.ok (by simp;omega) a b
     rw[LH,M7] at a2;exact Yl (isB H j J2 i) (kdF H j 5 C) d (by rw[Tr.Du,Ap,LJ];unfold I9 at X;unfold Bo;omega) a2
  |st=>exact qst H g hn h
  |br=>
   intro i;have h:=(h.mrk.read (w5 H)).2;have d:=exT (B:=B) (D:=D) (k:=k) H (by have:=h.le;omega) wIf i
   obtain⟨u,w,A,G,a2,h⟩:=qe1 H g h;obtain⟨b,k3,D3,l3,t,h⟩:=qbk H g h;rcases qac (B:=B) H Wy h with⟨a4,h⟩ | ⟨a4,h⟩
   ·have S:=h.le;have ok4:=h.ok;rcases h.ifW with⟨Z,h⟩ | ⟨Z,h⟩
    ·obtain⟨o,k5,D5,P,l5,h⟩:=h.cl g.1;have a5:=g.2 _ _ _ _ _ _ P S ok4 Z;obtain⟨y,e,a6⟩:=GY (B:=B) H (f:=k) am (by simp) h
     cases e;exact BvA p75 d a2 t a4 (isB H S [wIf] Z) a5 a6
    ·obtain⟨o,k5,D5,l5,a5,h⟩:=qbk H g h;obtain⟨y,e,a6⟩:=GY (B:=B) H (f:=k) am (by simp) h
     cases e;exact Bv9 p75 d a2 t a4 (isB H S [wIf] Z) a5 a6
   ·obtain⟨o,a5,h⟩:=u7 (B:=B) H h;obtain⟨y,e,a6⟩:=GY (B:=B) H (f:=k) am (by simp) h
    cases e;exact BvB p75 d a2 t a4 a5 a6
  |sk f=>
   intro b;rcases h.ifK with⟨C,h⟩ | ⟨C,h⟩
   ·have e:=h.ret;cases e;exact ed (kdT H j 5 C)
   ·have d:=kdF (B:=B) (D:=D) H j 5 C;have h:=h.mrk;by_cases hf:k=f
    ·rw[if_pos hf] at h;rcases h.ifW with⟨i,h⟩ | ⟨i,h⟩
     ·have e:=h.ret;cases e;exact d9 d am (isB H j J2 i)
     ·obtain⟨a2,h⟩:=qrd (B:=B) H h;by_cases K:(wAt s ls k).2=[59]
      ·rw[if_pos K] at h;have e:=h.ret;cases e;exact dY d am (isB H j J2 i) a2 K
      ·rw[if_neg K] at h;exact YI d am (isB H j J2 i) a2 K (g.2 _ _ _ _ _ _ h.lst h.le h.ok b)
    ·rw[if_neg hf] at h;rcases h.ifW with⟨i,h⟩ | ⟨i,h⟩
     ·have e:=h.ret;cases e;exact dZ d am (r82 (isB H j MS i))
     ·obtain⟨a2,h⟩:=qrd (B:=B) H h;by_cases K:(wAt s ls k).2=[59]
      ·rw[if_pos K] at h;have e:=h.ret;cases e;exact dX d am (r82 (isB H j MS i)) a2 K
      ·rw[if_neg K] at h;exact YH d am (r82 (isB H j MS i)) a2 K (g.2 _ _ _ _ _ _ h.lst h.le h.ok b)
  |sp=>
   intro f b q hf F;rcases h.ifK with⟨C,h⟩ | ⟨C,h⟩
   ·have e:=h.ret;cases e;exact dJ (kdT H j 5 C)
   ·have d:=kdF (B:=B) (D:=D) H j 5 C;rcases h.ifW with⟨i,h⟩ | ⟨i,h⟩
    ·have e:=h.ret;cases e;exact dI d am rfl (r55 (F _ _) (isB H j [IQ,LG] i))
    ·obtain⟨a2,h⟩:=Ti (B:=B) H h;exact Yq d am rfl (r55 (F _ _) (isB H j [IQ,LG] i)) a2 (g.2 _ _ _ _ _ _ h.lst h.le h.ok f b q am F)
  |pg Q=>
   intro X T F;have I:(Tr.pvs (Fh ls Q)).length+1<=Bo:=by rw[Tr.Du,Ap,LJ];unfold I9 at X;unfold Bo;omega
   rcases h.ifK with⟨C,h⟩ | ⟨C,h⟩
   ·have e:=h.ret;cases e;exact eG (F _ _) (kdT H j 5 C)
   ·have d:=kdF (B:=B) (D:=D) H j 5 C;rcases h.ifW with⟨i,h⟩ | ⟨i,h⟩
    ·obtain⟨x,w,A,G,a2,h⟩:=AxE H g hn i h;have t:=g.2 _ _ _ _ _ _ h.lst h.le h.ok (by simp;omega) T F
     rw[LH,M7] at t;exact YZ (F _ _) d (isB H j [LG] i) a2 I t
    ·have a2:=isB (B:=B) (D:=D) H j [LG] i;rcases h.ifW with⟨J,h⟩ | ⟨J,h⟩
     ·obtain⟨x,w,A,G,t,h⟩:=BQ8 H g hn J h;have a4:=g.2 _ _ _ _ _ _ h.lst h.le h.ok (by simp;omega) T F
      rw[LH,M7] at a4;exact YY (F _ _) d a2 (isB H j [IQ] J) t I a4
     ·have t:=isB (B:=B) (D:=D) H j [IQ] J;obtain⟨a4,h⟩:=q53 (B:=B) H h;obtain⟨a5,h⟩:=Ti (B:=B) H h.mrk;obtain⟨u,w,A,P,G,h2⟩:=h.call g.1;have a6:=g.2 _ _ _ _ _ _ P h.le h.ok k (en ls k) (T.length+1) am F
      have a7:LL Wp 0 [(0,some rf),(1,some (.func 239 [] [.ref (T.length+1) 0])),(4,some Z0),(5,some (N k)),(6,some (N (en ls k)))] (PS4 s ls B k (rp D 7 k [])) (.exit 0) [(0,some rf),(4,some Z0),(5,some (N k)),(6,some (N (en ls k)))] (PS4 s ls B w A):=
       Yr (kdF H j 5 C) rfl a5 a6
      have h3:=h2.bd;have a8:=g.2 _ _ _ _ _ _ h3.lst h3.le h3.ok (by simp;omega) T F
      rw[LH,M7] at a8;exact YX (F _ _) d a2 t a4 (F _ _) (r54 p75 a7 (nd0 H am h3.le 1 [] false)) I a8
end
end Go.Abs.Z
