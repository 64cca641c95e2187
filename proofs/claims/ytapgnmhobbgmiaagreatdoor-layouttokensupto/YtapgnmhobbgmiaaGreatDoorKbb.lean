/- A part of the proof: W3 G7 W4 D4 D5. -/
import Derived.Test.YtapgnmhobbgmiaaGreatDoorKba

set_option linter.unusedVariables false
set_option linter.unusedSimpArgs false
namespace Go.Abs.Z
open PV
open Go.Proofs Go.RowKit
variable{e:Cu}{z1:Int}{H T σ':Sto}{g n a b c m1 m m2 m3 m4 m5:Nat}{Ds Ds1 Ds2 Ds3 Ds4:List Dg}{d1 d2:Dg}{ff':FF}
theorem BQL:Rn 223 Bw8:=fun _ _ _=>rfl
theorem BjT{d e:Dg}(w1:IntKind.i64.wrap ((d.a:Int) - (e.a:Int))=z1):E 223 [d.pv,e.pv] [] (I z1) []:=
 rule BQL [sp 7 (WG w1)]
theorem BQ5:Rn 291 mJ:=fun _ _ _=>rfl
theorem BjE(L1:LL mJ 0 [(0,arr H.length g 0 n 5),(1,N a),(2,N b),(3,N c),(10,I 0)] (aS H T g Ds) (.exit 0) [] (aS H T g Ds1)):E 291 [.arr H.length g 0 n 5,N a,N b,N c,.func 223 [] []] (aS H T g Ds) (.tuple []) (aS H T g Ds1):=
 rule BQ5 [sl 1 [0,1,2,3,10] L1]
theorem UW(c1:(m1:Int) < (c:Int))(l1:a<2000000000)(l2:m1<2000000000)(l3:b<2000000000)(l4:(b+m1) < n)(g1:Ds1[b+m1]?=some d1)(l5:(a+m1) < n)(g2:Ds1[a+m1]?=some d2)(l6:(a+m1) < Ds1.length)(l7:(b+m1) < ((Ds1.set (a+m1) d1)).length)(hl:LL mJ 0 [(0,arr H.length g 0 n 5),(1,N a),(2,N b),(3,N c),(10,N (m1+1))] (aS H T g ((Ds1.set (a+m1) d1).set (b+m1) d2)) e ff' σ'):LL mJ 0 [(0,arr H.length g 0 n 5),(1,N a),(2,N b),(3,N c),(10,N m1)] (aS H T g Ds1) e ff' σ':=
 BM [0,1,2,3,10] [sp 2 (AQ .i64 c1),sp 4 (AB a m1 l1 l2),sp 3 (AB b m1 l3 l2),sp 3 (AB b m1 l3 l2),sp 0 (Ib (id:=H.length) (g:=g) l4),st 0 (QS (aS H T g Ds1) (ldA g1)),sp 3 (AB a m1 l1 l2),sp 0 (Ib (id:=H.length) (g:=g) l5),st 0 (QS (aS H T g Ds1) (ldA g2)),sp 0 (Ib (id:=H.length) (g:=g) l5),st 0 (stA l6:Bh pur run (.w (.st 5)) [.aptr H.length g 5 (a+m1) 0,d1.pv] (aS H T g Ds1) [] (aS H T g (Ds1.set (a+m1) d1))),sp 0 (Ib (id:=H.length) (g:=g) l4),st 0 (stA l7:Bh pur run (.w (.st 5)) [.aptr H.length g 5 (b+m1) 0,d2.pv] (aS H T g (Ds1.set (a+m1) d1)) [] (aS H T g ((Ds1.set (a+m1) d1).set (b+m1) d2))),sp 1 (AB m1 1 l2)] hl
theorem X3(c1:¬(m1:Int) < (c:Int)):LL mJ 0 [(0,arr H.length g 0 n 5),(1,N a),(2,N b),(3,N c),(10,N m1)] (aS H T g Ds1) (.exit 0) [] (aS H T g Ds1):=
 BA [] [sp 2 (BN .i64 c1)]
theorem BQ6:Rn 281 dV:=fun _ _ _=>rfl
theorem BjF(l1:a≤m)(l2:m<2000000000)(l3:m≤b)(l4:b<2000000000)(L1:LL dV 0 [(0,arr H.length g 0 n 5),(2,N m),(4,func 223 [] []),(10,N (m - a)),(11,N (b - m))] (aS H T g Ds) (.exit 0) [(0,arr H.length g 0 n 5),(2,N m),(4,func 223 [] []),(10,N m1)] (aS H T g Ds1))(l5:m1≤m)(h1:E 291 [.arr H.length g 0 n 5,N (m - m1),N m,N m1,.func 223 [] []] (aS H T g Ds1) (.tuple []) (aS H T g Ds2)):E 281 [.arr H.length g 0 n 5,N a,N m,N b,.func 223 [] []] (aS H T g Ds) (.tuple []) (aS H T g Ds2):=
 rule BQ6 [sp 2 (Dl m a l1 l2),sp 3 (Dl b m l3 l4),sl 1 [0,2,4,10,11] L1,sp 3 (Dl m m1 l5 l2),st 3 (oW h1)]
theorem X4(c1:(m1:Int)=(m2:Int)):LL dV 0 [(0,arr H.length g 0 n 5),(2,N m),(4,func 223 [] []),(10,N m1),(11,N m2)] (aS H T g Ds1) (.exit 0) [(0,arr H.length g 0 n 5),(2,N m),(4,func 223 [] []),(10,N m1)] (aS H T g Ds1):=
 BA [0,2,4,10] [sp 2 (DF .i64 c1)]
theorem UY(c1:(m1:Int)≠(m2:Int))(c2:(m1:Int) > (m2:Int))(l1:m1≤m)(l2:m<2000000000)(h1:E 291 [.arr H.length g 0 n 5,N (m - m1),N m,N m2,.func 223 [] []] (aS H T g Ds1) (.tuple []) (aS H T g Ds2))(l3:m2≤m1)(l4:m1<2000000000)(hl:LL dV 0 [(0,arr H.length g 0 n 5),(2,N m),(4,func 223 [] []),(10,N (m1 - m2)),(11,N m2)] (aS H T g Ds2) e ff' σ'):LL dV 0 [(0,arr H.length g 0 n 5),(2,N m),(4,func 223 [] []),(10,N m1),(11,N m2)] (aS H T g Ds1) e ff' σ':=
 BM [0,2,4,10,11] [sp 2 (DU .i64 c1),sp 3 (CX .i64 c2),sp 4 (Dl m m1 l1 l2),st 3 (oW h1),sp 2 (Dl m1 m2 l3 l4)] hl
theorem UX(c1:(m1:Int)≠(m2:Int))(c2:¬(m1:Int) > (m2:Int))(l1:m1≤m)(l2:m<2000000000)(l3:m2<2000000000)(l4:m1≤(m+m2))(l5:(m+m2) < 2000000000)(h1:E 291 [.arr H.length g 0 n 5,N (m - m1),N ((m+m2) - m1),N m1,.func 223 [] []] (aS H T g Ds1) (.tuple []) (aS H T g Ds2))(l6:m1≤m2)(hl:LL dV 0 [(0,arr H.length g 0 n 5),(2,N m),(4,func 223 [] []),(10,N m1),(11,N (m2 - m1))] (aS H T g Ds2) e ff' σ'):LL dV 0 [(0,arr H.length g 0 n 5),(2,N m),(4,func 223 [] []),(10,N m1),(11,N m2)] (aS H T g Ds1) e ff' σ':=
 BM [0,2,4,10,11] [sp 2 (DU .i64 c1),sp 3 (DI .i64 c2),sp 4 (Dl m m1 l1 l2),sp 2 (AB m m2 l2 l3),sp 1 (Dl (m+m2) m1 l4 l5),st 2 (oW h1),sp 2 (Dl m2 m1 l6 l3)] hl
theorem BxL:Rn 268 PZ:=fun _ _ _=>rfl
theorem AW7(l1:a<2000000000)(L1:LL PZ 0 [(0,arr H.length g 0 n 5),(1,N a),(2,N b),(3,func 223 [] []),(8,N (a+1))] (aS H T g Ds) (.exit 0) [(1,N a)] (aS H T g Ds1)):E 268 [.arr H.length g 0 n 5,N a,N b,.func 223 [] []] (aS H T g Ds) (.tuple []) (aS H T g Ds1):=
 rule BxL [sp 1 (AB a 1 l1),sl 1 [0,1,2,3,8] L1]
theorem Vf(c1:(m1:Int) < (b:Int))(L1:LL PZ 1 [(0,arr H.length g 0 n 5),(1,N a),(2,N b),(3,func 223 [] []),(8,N m1),(9,N m1)] (aS H T g Ds1) (.exit 2) [(0,arr H.length g 0 n 5),(1,N a),(2,N b),(3,func 223 [] []),(8,N m1),(9,N m2)] (aS H T g Ds2))(l1:m1<2000000000)(hl:LL PZ 0 [(0,arr H.length g 0 n 5),(1,N a),(2,N b),(3,func 223 [] []),(8,N (m1+1))] (aS H T g Ds2) e ff' σ'):LL PZ 0 [(0,arr H.length g 0 n 5),(1,N a),(2,N b),(3,func 223 [] []),(8,N m1)] (aS H T g Ds1) e ff' σ':=
 BM [0,1,2,3,8] [sp 2 (AQ .i64 c1),sl 3 [0,1,2,3,8,9] L1,sp 1 (AB m1 1 l1)] hl
theorem O7(c1:¬(m1:Int) < (b:Int)):LL PZ 0 [(0,arr H.length g 0 n 5),(1,N a),(2,N b),(3,func 223 [] []),(8,N m1)] (aS H T g Ds1) (.exit 0) [(1,N a)] (aS H T g Ds1):=
 BA [1] [sp 2 (BN .i64 c1)]
theorem Yb(c1:¬(m2:Int) > (a:Int)):LL PZ 1 [(0,arr H.length g 0 n 5),(1,N a),(2,N b),(3,func 223 [] []),(8,N m1),(9,N m2)] (aS H T g Ds2) (.exit 2) [(0,arr H.length g 0 n 5),(1,N a),(2,N b),(3,func 223 [] []),(8,N m1),(9,N m2)] (aS H T g Ds2):=
 BA [0,1,2,3,8,9] [sp 2 (DI .i64 c1)]
theorem Ve(c1:(m2:Int) > (a:Int))(l1:m2<n)(g1:Ds2[m2]?=some d1)(l2:1≤m2)(l3:m2<2000000000)(l4:(m2 - 1) < n)(g2:Ds2[m2 - 1]?=some d2)(h1:E 223 [d1.pv,d2.pv] [] (I z1) [])(c2:z1<0)(l5:m2<Ds2.length)(l6:(m2 - 1) < ((Ds2.set m2 d2)).length)(hl:LL PZ 1 [(0,arr H.length g 0 n 5),(1,N a),(2,N b),(3,func 223 [] []),(8,N m1),(9,N (m2 - 1))] (aS H T g ((Ds2.set m2 d2).set (m2 - 1) d1)) e ff' σ'):LL PZ 1 [(0,arr H.length g 0 n 5),(1,N a),(2,N b),(3,func 223 [] []),(8,N m1),(9,N m2)] (aS H T g Ds2) e ff' σ':=
 BM [0,1,2,3,8,9] [sp 2 (CX .i64 c1),sq 4 (Ib (id:=H.length) (g:=g) l1),sg 0 (QS (aS H T g Ds2) (ldA g1)),sq 2 (Dl m2 1 l2 l3),sq 0 (Ib (id:=H.length) (g:=g) l4),sg 0 (QS (aS H T g Ds2) (ldA g2)),sg 0 (Jy h1:Bh pur run (.w .calld) [.func 223 [] [],d1.pv,d2.pv] (aS H T g Ds2) [some (I z1)] (aS H T g Ds2)),sq 0 (AQ .i64 c2),sp 6 (Dl m2 1 l2 l3),sp 2 (Dl m2 1 l2 l3),sp 0 (Ib (id:=H.length) (g:=g) l4),st 0 (QS (aS H T g Ds2) (ldA g2)),sp 2 (Ib (id:=H.length) (g:=g) l1),st 0 (QS (aS H T g Ds2) (ldA g1)),sp 0 (Ib (id:=H.length) (g:=g) l1),st 0 (stA l5:Bh pur run (.w (.st 5)) [.aptr H.length g 5 m2 0,d2.pv] (aS H T g Ds2) [] (aS H T g (Ds2.set m2 d2))),sp 0 (Ib (id:=H.length) (g:=g) l4),st 0 (stA l6:Bh pur run (.w (.st 5)) [.aptr H.length g 5 (m2 - 1) 0,d1.pv] (aS H T g (Ds2.set m2 d2)) [] (aS H T g ((Ds2.set m2 d2).set (m2 - 1) d1))),sp 1 (Dl m2 1 l2 l3)] hl
theorem Ya(c1:(m2:Int) > (a:Int))(l1:m2<n)(g1:Ds2[m2]?=some d1)(l2:1≤m2)(l3:m2<2000000000)(l4:(m2 - 1) < n)(g2:Ds2[m2 - 1]?=some d2)(h1:E 223 [d1.pv,d2.pv] [] (I z1) [])(c2:¬z1<0):LL PZ 1 [(0,arr H.length g 0 n 5),(1,N a),(2,N b),(3,func 223 [] []),(8,N m1),(9,N m2)] (aS H T g Ds2) (.exit 2) [(0,arr H.length g 0 n 5),(1,N a),(2,N b),(3,func 223 [] []),(8,N m1),(9,N m2)] (aS H T g Ds2):=
 BA [0,1,2,3,8,9] [sp 2 (CX .i64 c1),sq 4 (Ib (id:=H.length) (g:=g) l1),sg 0 (QS (aS H T g Ds2) (ldA g1)),sq 2 (Dl m2 1 l2 l3),sq 0 (Ib (id:=H.length) (g:=g) l4),sg 0 (QS (aS H T g Ds2) (ldA g2)),sg 0 (Jy h1:Bh pur run (.w .calld) [.func 223 [] [],d1.pv,d2.pv] (aS H T g Ds2) [some (I z1)] (aS H T g Ds2)),sq 0 (BN .i64 c2)]
theorem QK:Rn 269 Fs:=fun _ _ _=>rfl
theorem AjR(l1:a≤m)(l2:m<2000000000)(c1:(((m - a):Nat):Int)=1)(L1:LL Fs 0 [(0,arr H.length g 0 n 5),(1,N a),(2,N m),(3,N b),(4,func 223 [] []),(10,N m),(11,N b)] (aS H T g Ds) (.exit 0) [(0,arr H.length g 0 n 5),(1,N a),(2,N m),(3,N b),(4,func 223 [] []),(10,N m1)] (aS H T g Ds))(L2:LL Fs 1 [(0,arr H.length g 0 n 5),(1,N a),(2,N m),(3,N b),(4,func 223 [] []),(10,N m1),(13,N a)] (aS H T g Ds) (.exit 2) [(0,arr H.length g 0 n 5),(1,N a),(2,N m),(3,N b),(4,func 223 [] []),(10,N m1)] (aS H T g Ds1)):E 269 [.arr H.length g 0 n 5,N a,N m,N b,.func 223 [] []] (aS H T g Ds) (.tuple []) (aS H T g Ds1):=
 rule QK [sp 2 (Dl m a l1 l2),sp 0 (BJ .i64 c1),sl 5 [0,1,2,3,4,10,11] L1,sl 2 [0,1,2,3,4,10,13] L2]
theorem AjQ(l1:a≤m)(l2:m<2000000000)(c1:(((m - a):Nat):Int)≠1)(l3:m≤b)(l4:b<2000000000)(c2:(((b - m):Nat):Int)=1)(L1:LL Fs 2 [(0,arr H.length g 0 n 5),(1,N a),(2,N m),(3,N b),(4,func 223 [] []),(14,N a),(15,N m)] (aS H T g Ds) (.exit 4) [(0,arr H.length g 0 n 5),(1,N a),(2,N m),(3,N b),(4,func 223 [] []),(14,N m1)] (aS H T g Ds))(L2:LL Fs 3 [(0,arr H.length g 0 n 5),(1,N a),(2,N m),(3,N b),(4,func 223 [] []),(14,N m1),(17,N m)] (aS H T g Ds) (.exit 6) [(0,arr H.length g 0 n 5),(1,N a),(2,N m),(3,N b),(4,func 223 [] []),(14,N m1)] (aS H T g Ds1)):E 269 [.arr H.length g 0 n 5,N a,N m,N b,.func 223 [] []] (aS H T g Ds) (.tuple []) (aS H T g Ds1):=
 rule QK [sp 2 (Dl m a l1 l2),sp 0 (AX .i64 c1),sp 3 (Dl b m l3 l4),sp 0 (BJ .i64 c2),sl 5 [0,1,2,3,4,14,15] L1,sl 2 [0,1,2,3,4,14,17] L2]
theorem AjP(l1:a≤m)(l2:m<2000000000)(c1:(((m - a):Nat):Int)≠1)(l3:m≤b)(l4:b<2000000000)(c2:(((b - m):Nat):Int)≠1)(l5:a<2000000000)(l6:(a+b) < 2000000000)(l7:((a+b) / 2) < 2000000000)(c3:(m:Int) > ((((a+b) / 2):Nat):Int))(l8:b≤(((a+b) / 2)+m))(l9:(((a+b) / 2)+m) < 2000000000)(l10:1≤(((a+b) / 2)+m))(L1:LL Fs 4 [(0,arr H.length g 0 n 5),(1,N a),(2,N m),(3,N b),(4,func 223 [] []),(18,N ((a+b) / 2)),(19,N (((a+b) / 2)+m)),(20,N ((((a+b) / 2)+m) - b)),(21,N ((a+b) / 2)),(22,N ((((a+b) / 2)+m) - 1))] (aS H T g Ds) (.exit 8) [(0,arr H.length g 0 n 5),(1,N a),(2,N m),(3,N b),(4,func 223 [] []),(18,N ((a+b) / 2)),(19,N (((a+b) / 2)+m)),(20,N m1)] (aS H T g Ds))(l11:m1≤(((a+b) / 2)+m))(c4:(m1:Int) < (m:Int))(c5:¬(m:Int) < ((((((a+b) / 2)+m) - m1):Nat):Int))(c6:(a:Int) < (m1:Int))(c7:¬(m1:Int) < ((((a+b) / 2):Nat):Int))(c8:((((a+b) / 2):Nat):Int) < ((((((a+b) / 2)+m) - m1):Nat):Int))(c9:((((((a+b) / 2)+m) - m1):Nat):Int) < (b:Int))(h1:E 269 [.arr H.length g 0 n 5,N ((a+b) / 2),N ((((a+b) / 2)+m) - m1),N b,.func 223 [] []] (aS H T g Ds) (.tuple []) (aS H T g Ds1)):E 269 [.arr H.length g 0 n 5,N a,N m,N b,.func 223 [] []] (aS H T g Ds) (.tuple []) (aS H T g Ds1):=
 rule QK [sp 2 (Dl m a l1 l2),sp 0 (AX .i64 c1),sp 3 (Dl b m l3 l4),sp 0 (AX .i64 c2),sp 3 (AB a b l5 l4),sp 0 (MX (a+b) l6),sp 0 (Mr (a+b) l6),sp 0 (MZ ((a+b) / 2) l7),sp 3 (AB ((a+b) / 2) m l7 l2),sp 5 (CX .i64 c3),sp 3 (Dl (((a+b) / 2)+m) b l8 l9),sp 4 (Dl (((a+b) / 2)+m) 1 l10 l9),sl 1 [0,1,2,3,4,18,19,20,21,22] L1,sp 2 (Dl (((a+b) / 2)+m) m1 l11 l9),sp 3 (AQ .i64 c4),sq 3 (BN .i64 c5),sp 4 (AQ .i64 c6),sq 3 (BN .i64 c7),sp 4 (AQ .i64 c8),sq 3 (AQ .i64 c9),st 7 (oW h1)]
theorem AjO(l1:a≤m)(l2:m<2000000000)(c1:(((m - a):Nat):Int)≠1)(l3:m≤b)(l4:b<2000000000)(c2:(((b - m):Nat):Int)≠1)(l5:a<2000000000)(l6:(a+b) < 2000000000)(l7:((a+b) / 2) < 2000000000)(c3:¬(m:Int) > ((((a+b) / 2):Nat):Int))(l8:1≤(((a+b) / 2)+m))(l9:(((a+b) / 2)+m) < 2000000000)(L1:LL Fs 4 [(0,arr H.length g 0 n 5),(1,N a),(2,N m),(3,N b),(4,func 223 [] []),(18,N ((a+b) / 2)),(19,N (((a+b) / 2)+m)),(20,N a),(21,N m),(22,N ((((a+b) / 2)+m) - 1))] (aS H T g Ds) (.exit 8) [(0,arr H.length g 0 n 5),(1,N a),(2,N m),(3,N b),(4,func 223 [] []),(18,N ((a+b) / 2)),(19,N (((a+b) / 2)+m)),(20,N m1)] (aS H T g Ds))(l10:m1≤(((a+b) / 2)+m))(c4:¬(m1:Int) < (m:Int))(c5:(a:Int) < (m1:Int))(c6:(m1:Int) < ((((a+b) / 2):Nat):Int))(h1:E 269 [.arr H.length g 0 n 5,N a,N m1,N ((a+b) / 2),.func 223 [] []] (aS H T g Ds) (.tuple []) (aS H T g Ds1))(c7:¬((((a+b) / 2):Nat):Int) < ((((((a+b) / 2)+m) - m1):Nat):Int)):E 269 [.arr H.length g 0 n 5,N a,N m,N b,.func 223 [] []] (aS H T g Ds) (.tuple []) (aS H T g Ds1):=
 rule QK [sp 2 (Dl m a l1 l2),sp 0 (AX .i64 c1),sp 3 (Dl b m l3 l4),sp 0 (AX .i64 c2),sp 3 (AB a b l5 l4),sp 0 (MX (a+b) l6),sp 0 (Mr (a+b) l6),sp 0 (MZ ((a+b) / 2) l7),sp 3 (AB ((a+b) / 2) m l7 l2),sp 5 (DI .i64 c3),sp 6 (Dl (((a+b) / 2)+m) 1 l8 l9),sl 1 [0,1,2,3,4,18,19,20,21,22] L1,sp 2 (Dl (((a+b) / 2)+m) m1 l10 l9),sp 3 (BN .i64 c4),sp 8 (AQ .i64 c5),sq 3 (AQ .i64 c6),st 7 (oW h1),sp 2 (BN .i64 c7)]
theorem AjN(l1:a≤m)(l2:m<2000000000)(c1:(((m - a):Nat):Int)≠1)(l3:m≤b)(l4:b<2000000000)(c2:(((b - m):Nat):Int)≠1)(l5:a<2000000000)(l6:(a+b) < 2000000000)(l7:((a+b) / 2) < 2000000000)(c3:¬(m:Int) > ((((a+b) / 2):Nat):Int))(l8:1≤(((a+b) / 2)+m))(l9:(((a+b) / 2)+m) < 2000000000)(L1:LL Fs 4 [(0,arr H.length g 0 n 5),(1,N a),(2,N m),(3,N b),(4,func 223 [] []),(18,N ((a+b) / 2)),(19,N (((a+b) / 2)+m)),(20,N a),(21,N m),(22,N ((((a+b) / 2)+m) - 1))] (aS H T g Ds) (.exit 8) [(0,arr H.length g 0 n 5),(1,N a),(2,N m),(3,N b),(4,func 223 [] []),(18,N ((a+b) / 2)),(19,N (((a+b) / 2)+m)),(20,N m1)] (aS H T g Ds))(l10:m1≤(((a+b) / 2)+m))(c4:¬(m1:Int) < (m:Int))(c5:(a:Int) < (m1:Int))(c6:¬(m1:Int) < ((((a+b) / 2):Nat):Int))(c7:¬((((a+b) / 2):Nat):Int) < ((((((a+b) / 2)+m) - m1):Nat):Int)):E 269 [.arr H.length g 0 n 5,N a,N m,N b,.func 223 [] []] (aS H T g Ds) (.tuple []) (aS H T g Ds):=
 rule QK [sp 2 (Dl m a l1 l2),sp 0 (AX .i64 c1),sp 3 (Dl b m l3 l4),sp 0 (AX .i64 c2),sp 3 (AB a b l5 l4),sp 0 (MX (a+b) l6),sp 0 (Mr (a+b) l6),sp 0 (MZ ((a+b) / 2) l7),sp 3 (AB ((a+b) / 2) m l7 l2),sp 5 (DI .i64 c3),sp 6 (Dl (((a+b) / 2)+m) 1 l8 l9),sl 1 [0,1,2,3,4,18,19,20,21,22] L1,sp 2 (Dl (((a+b) / 2)+m) m1 l10 l9),sp 3 (BN .i64 c4),sp 8 (AQ .i64 c5),sq 3 (BN .i64 c6),sp 4 (BN .i64 c7)]
theorem AjM(l1:a≤m)(l2:m<2000000000)(c1:(((m - a):Nat):Int)≠1)(l3:m≤b)(l4:b<2000000000)(c2:(((b - m):Nat):Int)≠1)(l5:a<2000000000)(l6:(a+b) < 2000000000)(l7:((a+b) / 2) < 2000000000)(c3:(m:Int) > ((((a+b) / 2):Nat):Int))(l8:b≤(((a+b) / 2)+m))(l9:(((a+b) / 2)+m) < 2000000000)(l10:1≤(((a+b) / 2)+m))(L1:LL Fs 4 [(0,arr H.length g 0 n 5),(1,N a),(2,N m),(3,N b),(4,func 223 [] []),(18,N ((a+b) / 2)),(19,N (((a+b) / 2)+m)),(20,N ((((a+b) / 2)+m) - b)),(21,N ((a+b) / 2)),(22,N ((((a+b) / 2)+m) - 1))] (aS H T g Ds) (.exit 8) [(0,arr H.length g 0 n 5),(1,N a),(2,N m),(3,N b),(4,func 223 [] []),(18,N ((a+b) / 2)),(19,N (((a+b) / 2)+m)),(20,N m1)] (aS H T g Ds))(l11:m1≤(((a+b) / 2)+m))(c4:(m1:Int) < (m:Int))(c5:(m:Int) < ((((((a+b) / 2)+m) - m1):Nat):Int))(h1:E 281 [.arr H.length g 0 n 5,N m1,N m,N ((((a+b) / 2)+m) - m1),.func 223 [] []] (aS H T g Ds) (.tuple []) (aS H T g Ds1))(c6:(a:Int) < (m1:Int))(c7:(m1:Int) < ((((a+b) / 2):Nat):Int))(h2:E 269 [.arr H.length g 0 n 5,N a,N m1,N ((a+b) / 2),.func 223 [] []] (aS H T g Ds1) (.tuple []) (aS H T g Ds2))(c8:((((a+b) / 2):Nat):Int) < ((((((a+b) / 2)+m) - m1):Nat):Int))(c9:((((((a+b) / 2)+m) - m1):Nat):Int) < (b:Int))(h3:E 269 [.arr H.length g 0 n 5,N ((a+b) / 2),N ((((a+b) / 2)+m) - m1),N b,.func 223 [] []] (aS H T g Ds2) (.tuple []) (aS H T g Ds3)):E 269 [.arr H.length g 0 n 5,N a,N m,N b,.func 223 [] []] (aS H T g Ds) (.tuple []) (aS H T g Ds3):=
 rule QK [sp 2 (Dl m a l1 l2),sp 0 (AX .i64 c1),sp 3 (Dl b m l3 l4),sp 0 (AX .i64 c2),sp 3 (AB a b l5 l4),sp 0 (MX (a+b) l6),sp 0 (Mr (a+b) l6),sp 0 (MZ ((a+b) / 2) l7),sp 3 (AB ((a+b) / 2) m l7 l2),sp 5 (CX .i64 c3),sp 3 (Dl (((a+b) / 2)+m) b l8 l9),sp 4 (Dl (((a+b) / 2)+m) 1 l10 l9),sl 1 [0,1,2,3,4,18,19,20,21,22] L1,sp 2 (Dl (((a+b) / 2)+m) m1 l11 l9),sp 3 (AQ .i64 c4),sq 3 (AQ .i64 c5),st 7 (oW h1),sp 2 (AQ .i64 c6),sq 3 (AQ .i64 c7),st 7 (oW h2),sp 2 (AQ .i64 c8),sq 3 (AQ .i64 c9),st 7 (oW h3)]
theorem AjL(l1:a≤m)(l2:m<2000000000)(c1:(((m - a):Nat):Int)≠1)(l3:m≤b)(l4:b<2000000000)(c2:(((b - m):Nat):Int)≠1)(l5:a<2000000000)(l6:(a+b) < 2000000000)(l7:((a+b) / 2) < 2000000000)(c3:(m:Int) > ((((a+b) / 2):Nat):Int))(l8:b≤(((a+b) / 2)+m))(l9:(((a+b) / 2)+m) < 2000000000)(l10:1≤(((a+b) / 2)+m))(L1:LL Fs 4 [(0,arr H.length g 0 n 5),(1,N a),(2,N m),(3,N b),(4,func 223 [] []),(18,N ((a+b) / 2)),(19,N (((a+b) / 2)+m)),(20,N ((((a+b) / 2)+m) - b)),(21,N ((a+b) / 2)),(22,N ((((a+b) / 2)+m) - 1))] (aS H T g Ds) (.exit 8) [(0,arr H.length g 0 n 5),(1,N a),(2,N m),(3,N b),(4,func 223 [] []),(18,N ((a+b) / 2)),(19,N (((a+b) / 2)+m)),(20,N m1)] (aS H T g Ds))(l11:m1≤(((a+b) / 2)+m))(c4:(m1:Int) < (m:Int))(c5:(m:Int) < ((((((a+b) / 2)+m) - m1):Nat):Int))(h1:E 281 [.arr H.length g 0 n 5,N m1,N m,N ((((a+b) / 2)+m) - m1),.func 223 [] []] (aS H T g Ds) (.tuple []) (aS H T g Ds1))(c6:(a:Int) < (m1:Int))(c7:(m1:Int) < ((((a+b) / 2):Nat):Int))(h2:E 269 [.arr H.length g 0 n 5,N a,N m1,N ((a+b) / 2),.func 223 [] []] (aS H T g Ds1) (.tuple []) (aS H T g Ds2))(c8:((((a+b) / 2):Nat):Int) < ((((((a+b) / 2)+m) - m1):Nat):Int))(c9:¬((((((a+b) / 2)+m) - m1):Nat):Int) < (b:Int)):E 269 [.arr H.length g 0 n 5,N a,N m,N b,.func 223 [] []] (aS H T g Ds) (.tuple []) (aS H T g Ds2):=
 rule QK [sp 2 (Dl m a l1 l2),sp 0 (AX .i64 c1),sp 3 (Dl b m l3 l4),sp 0 (AX .i64 c2),sp 3 (AB a b l5 l4),sp 0 (MX (a+b) l6),sp 0 (Mr (a+b) l6),sp 0 (MZ ((a+b) / 2) l7),sp 3 (AB ((a+b) / 2) m l7 l2),sp 5 (CX .i64 c3),sp 3 (Dl (((a+b) / 2)+m) b l8 l9),sp 4 (Dl (((a+b) / 2)+m) 1 l10 l9),sl 1 [0,1,2,3,4,18,19,20,21,22] L1,sp 2 (Dl (((a+b) / 2)+m) m1 l11 l9),sp 3 (AQ .i64 c4),sq 3 (AQ .i64 c5),st 7 (oW h1),sp 2 (AQ .i64 c6),sq 3 (AQ .i64 c7),st 7 (oW h2),sp 2 (AQ .i64 c8),sq 3 (BN .i64 c9)]
theorem AjK(l1:a≤m)(l2:m<2000000000)(c1:(((m - a):Nat):Int)≠1)(l3:m≤b)(l4:b<2000000000)(c2:(((b - m):Nat):Int)≠1)(l5:a<2000000000)(l6:(a+b) < 2000000000)(l7:((a+b) / 2) < 2000000000)(c3:(m:Int) > ((((a+b) / 2):Nat):Int))(l8:b≤(((a+b) / 2)+m))(l9:(((a+b) / 2)+m) < 2000000000)(l10:1≤(((a+b) / 2)+m))(L1:LL Fs 4 [(0,arr H.length g 0 n 5),(1,N a),(2,N m),(3,N b),(4,func 223 [] []),(18,N ((a+b) / 2)),(19,N (((a+b) / 2)+m)),(20,N ((((a+b) / 2)+m) - b)),(21,N ((a+b) / 2)),(22,N ((((a+b) / 2)+m) - 1))] (aS H T g Ds) (.exit 8) [(0,arr H.length g 0 n 5),(1,N a),(2,N m),(3,N b),(4,func 223 [] []),(18,N ((a+b) / 2)),(19,N (((a+b) / 2)+m)),(20,N m1)] (aS H T g Ds))(l11:m1≤(((a+b) / 2)+m))(c4:(m1:Int) < (m:Int))(c5:(m:Int) < ((((((a+b) / 2)+m) - m1):Nat):Int))(h1:E 281 [.arr H.length g 0 n 5,N m1,N m,N ((((a+b) / 2)+m) - m1),.func 223 [] []] (aS H T g Ds) (.tuple []) (aS H T g Ds1))(c6:¬(a:Int) < (m1:Int))(c7:((((a+b) / 2):Nat):Int) < ((((((a+b) / 2)+m) - m1):Nat):Int))(c8:((((((a+b) / 2)+m) - m1):Nat):Int) < (b:Int))(h2:E 269 [.arr H.length g 0 n 5,N ((a+b) / 2),N ((((a+b) / 2)+m) - m1),N b,.func 223 [] []] (aS H T g Ds1) (.tuple []) (aS H T g Ds2)):E 269 [.arr H.length g 0 n 5,N a,N m,N b,.func 223 [] []] (aS H T g Ds) (.tuple []) (aS H T g Ds2):=
 rule QK [sp 2 (Dl m a l1 l2),sp 0 (AX .i64 c1),sp 3 (Dl b m l3 l4),sp 0 (AX .i64 c2),sp 3 (AB a b l5 l4),sp 0 (MX (a+b) l6),sp 0 (Mr (a+b) l6),sp 0 (MZ ((a+b) / 2) l7),sp 3 (AB ((a+b) / 2) m l7 l2),sp 5 (CX .i64 c3),sp 3 (Dl (((a+b) / 2)+m) b l8 l9),sp 4 (Dl (((a+b) / 2)+m) 1 l10 l9),sl 1 [0,1,2,3,4,18,19,20,21,22] L1,sp 2 (Dl (((a+b) / 2)+m) m1 l11 l9),sp 3 (AQ .i64 c4),sq 3 (AQ .i64 c5),st 7 (oW h1),sp 2 (BN .i64 c6),sp 8 (AQ .i64 c7),sq 3 (AQ .i64 c8),st 7 (oW h2)]
theorem AjJ(l1:a≤m)(l2:m<2000000000)(c1:(((m - a):Nat):Int)≠1)(l3:m≤b)(l4:b<2000000000)(c2:(((b - m):Nat):Int)≠1)(l5:a<2000000000)(l6:(a+b) < 2000000000)(l7:((a+b) / 2) < 2000000000)(c3:(m:Int) > ((((a+b) / 2):Nat):Int))(l8:b≤(((a+b) / 2)+m))(l9:(((a+b) / 2)+m) < 2000000000)(l10:1≤(((a+b) / 2)+m))(L1:LL Fs 4 [(0,arr H.length g 0 n 5),(1,N a),(2,N m),(3,N b),(4,func 223 [] []),(18,N ((a+b) / 2)),(19,N (((a+b) / 2)+m)),(20,N ((((a+b) / 2)+m) - b)),(21,N ((a+b) / 2)),(22,N ((((a+b) / 2)+m) - 1))] (aS H T g Ds) (.exit 8) [(0,arr H.length g 0 n 5),(1,N a),(2,N m),(3,N b),(4,func 223 [] []),(18,N ((a+b) / 2)),(19,N (((a+b) / 2)+m)),(20,N m1)] (aS H T g Ds))(l11:m1≤(((a+b) / 2)+m))(c4:(m1:Int) < (m:Int))(c5:(m:Int) < ((((((a+b) / 2)+m) - m1):Nat):Int))(h1:E 281 [.arr H.length g 0 n 5,N m1,N m,N ((((a+b) / 2)+m) - m1),.func 223 [] []] (aS H T g Ds) (.tuple []) (aS H T g Ds1))(c6:¬(a:Int) < (m1:Int))(c7:((((a+b) / 2):Nat):Int) < ((((((a+b) / 2)+m) - m1):Nat):Int))(c8:¬((((((a+b) / 2)+m) - m1):Nat):Int) < (b:Int)):E 269 [.arr H.length g 0 n 5,N a,N m,N b,.func 223 [] []] (aS H T g Ds) (.tuple []) (aS H T g Ds1):=
 rule QK [sp 2 (Dl m a l1 l2),sp 0 (AX .i64 c1),sp 3 (Dl b m l3 l4),sp 0 (AX .i64 c2),sp 3 (AB a b l5 l4),sp 0 (MX (a+b) l6),sp 0 (Mr (a+b) l6),sp 0 (MZ ((a+b) / 2) l7),sp 3 (AB ((a+b) / 2) m l7 l2),sp 5 (CX .i64 c3),sp 3 (Dl (((a+b) / 2)+m) b l8 l9),sp 4 (Dl (((a+b) / 2)+m) 1 l10 l9),sl 1 [0,1,2,3,4,18,19,20,21,22] L1,sp 2 (Dl (((a+b) / 2)+m) m1 l11 l9),sp 3 (AQ .i64 c4),sq 3 (AQ .i64 c5),st 7 (oW h1),sp 2 (BN .i64 c6),sp 8 (AQ .i64 c7),sq 3 (BN .i64 c8)]
theorem xk(l1:a≤m)(l2:m<2000000000)(c1:(((m - a):Nat):Int)≠1)(l3:m≤b)(l4:b<2000000000)(c2:(((b - m):Nat):Int)≠1)(l5:a<2000000000)(l6:(a+b) < 2000000000)(l7:((a+b) / 2) < 2000000000)(c3:¬(m:Int) > ((((a+b) / 2):Nat):Int))(l8:1≤(((a+b) / 2)+m))(l9:(((a+b) / 2)+m) < 2000000000)(L1:LL Fs 4 [(0,arr H.length g 0 n 5),(1,N a),(2,N m),(3,N b),(4,func 223 [] []),(18,N ((a+b) / 2)),(19,N (((a+b) / 2)+m)),(20,N a),(21,N m),(22,N ((((a+b) / 2)+m) - 1))] (aS H T g Ds) (.exit 8) [(0,arr H.length g 0 n 5),(1,N a),(2,N m),(3,N b),(4,func 223 [] []),(18,N ((a+b) / 2)),(19,N (((a+b) / 2)+m)),(20,N m1)] (aS H T g Ds))(l10:m1≤(((a+b) / 2)+m))(c4:(m1:Int) < (m:Int))(c5:(m:Int) < ((((((a+b) / 2)+m) - m1):Nat):Int))(h1:E 281 [.arr H.length g 0 n 5,N m1,N m,N ((((a+b) / 2)+m) - m1),.func 223 [] []] (aS H T g Ds) (.tuple []) (aS H T g Ds1))(c6:(a:Int) < (m1:Int))(c7:(m1:Int) < ((((a+b) / 2):Nat):Int))(h2:E 269 [.arr H.length g 0 n 5,N a,N m1,N ((a+b) / 2),.func 223 [] []] (aS H T g Ds1) (.tuple []) (aS H T g Ds2))(c8:((((a+b) / 2):Nat):Int) < ((((((a+b) / 2)+m) - m1):Nat):Int))(c9:((((((a+b) / 2)+m) - m1):Nat):Int) < (b:Int))(h3:E 269 [.arr H.length g 0 n 5,N ((a+b) / 2),N ((((a+b) / 2)+m) - m1),N b,.func 223 [] []] (aS H T g Ds2) (.tuple []) (aS H T g Ds3)):E 269 [.arr H.length g 0 n 5,N a,N m,N b,.func 223 [] []] (aS H T g Ds) (.tuple []) (aS H T g Ds3):=
 rule QK [sp 2 (Dl m a l1 l2),sp 0 (AX .i64 c1),sp 3 (Dl b m l3 l4),sp 0 (AX .i64 c2),sp 3 (AB a b l5 l4),sp 0 (MX (a+b) l6),sp 0 (Mr (a+b) l6),sp 0 (MZ ((a+b) / 2) l7),sp 3 (AB ((a+b) / 2) m l7 l2),sp 5 (DI .i64 c3),sp 6 (Dl (((a+b) / 2)+m) 1 l8 l9),sl 1 [0,1,2,3,4,18,19,20,21,22] L1,sp 2 (Dl (((a+b) / 2)+m) m1 l10 l9),sp 3 (AQ .i64 c4),sq 3 (AQ .i64 c5),st 7 (oW h1),sp 2 (AQ .i64 c6),sq 3 (AQ .i64 c7),st 7 (oW h2),sp 2 (AQ .i64 c8),sq 3 (AQ .i64 c9),st 7 (oW h3)]
theorem xh(l1:a≤m)(l2:m<2000000000)(c1:(((m - a):Nat):Int)≠1)(l3:m≤b)(l4:b<2000000000)(c2:(((b - m):Nat):Int)≠1)(l5:a<2000000000)(l6:(a+b) < 2000000000)(l7:((a+b) / 2) < 2000000000)(c3:¬(m:Int) > ((((a+b) / 2):Nat):Int))(l8:1≤(((a+b) / 2)+m))(l9:(((a+b) / 2)+m) < 2000000000)(L1:LL Fs 4 [(0,arr H.length g 0 n 5),(1,N a),(2,N m),(3,N b),(4,func 223 [] []),(18,N ((a+b) / 2)),(19,N (((a+b) / 2)+m)),(20,N a),(21,N m),(22,N ((((a+b) / 2)+m) - 1))] (aS H T g Ds) (.exit 8) [(0,arr H.length g 0 n 5),(1,N a),(2,N m),(3,N b),(4,func 223 [] []),(18,N ((a+b) / 2)),(19,N (((a+b) / 2)+m)),(20,N m1)] (aS H T g Ds))(l10:m1≤(((a+b) / 2)+m))(c4:(m1:Int) < (m:Int))(c5:(m:Int) < ((((((a+b) / 2)+m) - m1):Nat):Int))(h1:E 281 [.arr H.length g 0 n 5,N m1,N m,N ((((a+b) / 2)+m) - m1),.func 223 [] []] (aS H T g Ds) (.tuple []) (aS H T g Ds1))(c6:(a:Int) < (m1:Int))(c7:(m1:Int) < ((((a+b) / 2):Nat):Int))(h2:E 269 [.arr H.length g 0 n 5,N a,N m1,N ((a+b) / 2),.func 223 [] []] (aS H T g Ds1) (.tuple []) (aS H T g Ds2))(c8:((((a+b) / 2):Nat):Int) < ((((((a+b) / 2)+m) - m1):Nat):Int))(c9:¬((((((a+b) / 2)+m) - m1):Nat):Int) < (b:Int)):E 269 [.arr H.length g 0 n 5,N a,N m,N b,.func 223 [] []] (aS H T g Ds) (.tuple []) (aS H T g Ds2):=
 rule QK [sp 2 (Dl m a l1 l2),sp 0 (AX .i64 c1),sp 3 (Dl b m l3 l4),sp 0 (AX .i64 c2),sp 3 (AB a b l5 l4),sp 0 (MX (a+b) l6),sp 0 (Mr (a+b) l6),sp 0 (MZ ((a+b) / 2) l7),sp 3 (AB ((a+b) / 2) m l7 l2),sp 5 (DI .i64 c3),sp 6 (Dl (((a+b) / 2)+m) 1 l8 l9),sl 1 [0,1,2,3,4,18,19,20,21,22] L1,sp 2 (Dl (((a+b) / 2)+m) m1 l10 l9),sp 3 (AQ .i64 c4),sq 3 (AQ .i64 c5),st 7 (oW h1),sp 2 (AQ .i64 c6),sq 3 (AQ .i64 c7),st 7 (oW h2),sp 2 (AQ .i64 c8),sq 3 (BN .i64 c9)]
theorem xg(l1:a≤m)(l2:m<2000000000)(c1:(((m - a):Nat):Int)≠1)(l3:m≤b)(l4:b<2000000000)(c2:(((b - m):Nat):Int)≠1)(l5:a<2000000000)(l6:(a+b) < 2000000000)(l7:((a+b) / 2) < 2000000000)(c3:¬(m:Int) > ((((a+b) / 2):Nat):Int))(l8:1≤(((a+b) / 2)+m))(l9:(((a+b) / 2)+m) < 2000000000)(L1:LL Fs 4 [(0,arr H.length g 0 n 5),(1,N a),(2,N m),(3,N b),(4,func 223 [] []),(18,N ((a+b) / 2)),(19,N (((a+b) / 2)+m)),(20,N a),(21,N m),(22,N ((((a+b) / 2)+m) - 1))] (aS H T g Ds) (.exit 8) [(0,arr H.length g 0 n 5),(1,N a),(2,N m),(3,N b),(4,func 223 [] []),(18,N ((a+b) / 2)),(19,N (((a+b) / 2)+m)),(20,N m1)] (aS H T g Ds))(l10:m1≤(((a+b) / 2)+m))(c4:(m1:Int) < (m:Int))(c5:(m:Int) < ((((((a+b) / 2)+m) - m1):Nat):Int))(h1:E 281 [.arr H.length g 0 n 5,N m1,N m,N ((((a+b) / 2)+m) - m1),.func 223 [] []] (aS H T g Ds) (.tuple []) (aS H T g Ds1))(c6:¬(a:Int) < (m1:Int))(c7:((((a+b) / 2):Nat):Int) < ((((((a+b) / 2)+m) - m1):Nat):Int))(c8:((((((a+b) / 2)+m) - m1):Nat):Int) < (b:Int))(h2:E 269 [.arr H.length g 0 n 5,N ((a+b) / 2),N ((((a+b) / 2)+m) - m1),N b,.func 223 [] []] (aS H T g Ds1) (.tuple []) (aS H T g Ds2)):E 269 [.arr H.length g 0 n 5,N a,N m,N b,.func 223 [] []] (aS H T g Ds) (.tuple []) (aS H T g Ds2):=
 rule QK [sp 2 (Dl m a l1 l2),sp 0 (AX .i64 c1),sp 3 (Dl b m l3 l4),sp 0 (AX .i64 c2),sp 3 (AB a b l5 l4),sp 0 (MX (a+b) l6),sp 0 (Mr (a+b) l6),sp 0 (MZ ((a+b) / 2) l7),sp 3 (AB ((a+b) / 2) m l7 l2),sp 5 (DI .i64 c3),sp 6 (Dl (((a+b) / 2)+m) 1 l8 l9),sl 1 [0,1,2,3,4,18,19,20,21,22] L1,sp 2 (Dl (((a+b) / 2)+m) m1 l10 l9),sp 3 (AQ .i64 c4),sq 3 (AQ .i64 c5),st 7 (oW h1),sp 2 (BN .i64 c6),sp 8 (AQ .i64 c7),sq 3 (AQ .i64 c8),st 7 (oW h2)]
theorem xe(l1:a≤m)(l2:m<2000000000)(c1:(((m - a):Nat):Int)≠1)(l3:m≤b)(l4:b<2000000000)(c2:(((b - m):Nat):Int)≠1)(l5:a<2000000000)(l6:(a+b) < 2000000000)(l7:((a+b) / 2) < 2000000000)(c3:¬(m:Int) > ((((a+b) / 2):Nat):Int))(l8:1≤(((a+b) / 2)+m))(l9:(((a+b) / 2)+m) < 2000000000)(L1:LL Fs 4 [(0,arr H.length g 0 n 5),(1,N a),(2,N m),(3,N b),(4,func 223 [] []),(18,N ((a+b) / 2)),(19,N (((a+b) / 2)+m)),(20,N a),(21,N m),(22,N ((((a+b) / 2)+m) - 1))] (aS H T g Ds) (.exit 8) [(0,arr H.length g 0 n 5),(1,N a),(2,N m),(3,N b),(4,func 223 [] []),(18,N ((a+b) / 2)),(19,N (((a+b) / 2)+m)),(20,N m1)] (aS H T g Ds))(l10:m1≤(((a+b) / 2)+m))(c4:(m1:Int) < (m:Int))(c5:(m:Int) < ((((((a+b) / 2)+m) - m1):Nat):Int))(h1:E 281 [.arr H.length g 0 n 5,N m1,N m,N ((((a+b) / 2)+m) - m1),.func 223 [] []] (aS H T g Ds) (.tuple []) (aS H T g Ds1))(c6:¬(a:Int) < (m1:Int))(c7:((((a+b) / 2):Nat):Int) < ((((((a+b) / 2)+m) - m1):Nat):Int))(c8:¬((((((a+b) / 2)+m) - m1):Nat):Int) < (b:Int)):E 269 [.arr H.length g 0 n 5,N a,N m,N b,.func 223 [] []] (aS H T g Ds) (.tuple []) (aS H T g Ds1):=
 rule QK [sp 2 (Dl m a l1 l2),sp 0 (AX .i64 c1),sp 3 (Dl b m l3 l4),sp 0 (AX .i64 c2),sp 3 (AB a b l5 l4),sp 0 (MX (a+b) l6),sp 0 (Mr (a+b) l6),sp 0 (MZ ((a+b) / 2) l7),sp 3 (AB ((a+b) / 2) m l7 l2),sp 5 (DI .i64 c3),sp 6 (Dl (((a+b) / 2)+m) 1 l8 l9),sl 1 [0,1,2,3,4,18,19,20,21,22] L1,sp 2 (Dl (((a+b) / 2)+m) m1 l10 l9),sp 3 (AQ .i64 c4),sq 3 (AQ .i64 c5),st 7 (oW h1),sp 2 (BN .i64 c6),sp 8 (AQ .i64 c7),sq 3 (BN .i64 c8)]
theorem X9(c1:¬(m1:Int) < (m2:Int)):LL Fs 0 [(0,arr H.length g 0 n 5),(1,N a),(2,N m),(3,N b),(4,func 223 [] []),(10,N m1),(11,N m2)] (aS H T g Ds) (.exit 0) [(0,arr H.length g 0 n 5),(1,N a),(2,N m),(3,N b),(4,func 223 [] []),(10,N m1)] (aS H T g Ds):=
 BA [0,1,2,3,4,10] [sp 2 (BN .i64 c1)]
theorem Vb(c1:(m1:Int) < (m2:Int))(l1:m1<2000000000)(l2:m2<2000000000)(l3:(m1+m2) < 2000000000)(l4:((m1+m2) / 2) < 2000000000)(l5:((m1+m2) / 2) < n)(g1:Ds[(m1+m2) / 2]?=some d1)(l6:a<n)(g2:Ds[a]?=some d2)(h1:E 223 [d1.pv,d2.pv] [] (I z1) [])(c2:z1<0)(hl:LL Fs 0 [(0,arr H.length g 0 n 5),(1,N a),(2,N m),(3,N b),(4,func 223 [] []),(10,N (((m1+m2) / 2)+1)),(11,N m2)] (aS H T g Ds) e ff' σ'):LL Fs 0 [(0,arr H.length g 0 n 5),(1,N a),(2,N m),(3,N b),(4,func 223 [] []),(10,N m1),(11,N m2)] (aS H T g Ds) e ff' σ':=
 BM [0,1,2,3,4,10,11] [sp 2 (AQ .i64 c1),sp 3 (AB m1 m2 l1 l2),sp 0 (MX (m1+m2) l3),sp 0 (Mr (m1+m2) l3),sp 0 (MZ ((m1+m2) / 2) l4),sp 4 (Ib (id:=H.length) (g:=g) l5),st 0 (QS (aS H T g Ds) (ldA g1)),sp 2 (Ib (id:=H.length) (g:=g) l6),st 0 (QS (aS H T g Ds) (ldA g2)),st 0 (Jy h1:Bh pur run (.w .calld) [.func 223 [] [],d1.pv,d2.pv] (aS H T g Ds) [some (I z1)] (aS H T g Ds)),sp 0 (AQ .i64 c2),sp 2 (AB ((m1+m2) / 2) 1 l4)] hl
theorem Va(c1:(m1:Int) < (m2:Int))(l1:m1<2000000000)(l2:m2<2000000000)(l3:(m1+m2) < 2000000000)(l4:((m1+m2) / 2) < 2000000000)(l5:((m1+m2) / 2) < n)(g1:Ds[(m1+m2) / 2]?=some d1)(l6:a<n)(g2:Ds[a]?=some d2)(h1:E 223 [d1.pv,d2.pv] [] (I z1) [])(c2:¬z1<0)(hl:LL Fs 0 [(0,arr H.length g 0 n 5),(1,N a),(2,N m),(3,N b),(4,func 223 [] []),(10,N m1),(11,N ((m1+m2) / 2))] (aS H T g Ds) e ff' σ'):LL Fs 0 [(0,arr H.length g 0 n 5),(1,N a),(2,N m),(3,N b),(4,func 223 [] []),(10,N m1),(11,N m2)] (aS H T g Ds) e ff' σ':=
 BM [0,1,2,3,4,10,11] [sp 2 (AQ .i64 c1),sp 3 (AB m1 m2 l1 l2),sp 0 (MX (m1+m2) l3),sp 0 (Mr (m1+m2) l3),sp 0 (MZ ((m1+m2) / 2) l4),sp 4 (Ib (id:=H.length) (g:=g) l5),st 0 (QS (aS H T g Ds) (ldA g1)),sp 2 (Ib (id:=H.length) (g:=g) l6),st 0 (QS (aS H T g Ds) (ldA g2)),st 0 (Jy h1:Bh pur run (.w .calld) [.func 223 [] [],d1.pv,d2.pv] (aS H T g Ds) [some (I z1)] (aS H T g Ds)),sp 0 (BN .i64 c2)] hl
theorem U9(l1:1≤m1)(l2:m1<2000000000)(c1:(m2:Int) < (((m1 - 1):Nat):Int))(l3:m2<2000000000)(l4:(m2+1) < n)(g1:Ds1[m2+1]?=some d1)(l5:m2<n)(g2:Ds1[m2]?=some d2)(l6:m2<Ds1.length)(l7:(m2+1) < ((Ds1.set m2 d1)).length)(hl:LL Fs 1 [(0,arr H.length g 0 n 5),(1,N a),(2,N m),(3,N b),(4,func 223 [] []),(10,N m1),(13,N (m2+1))] (aS H T g ((Ds1.set m2 d1).set (m2+1) d2)) e ff' σ'):LL Fs 1 [(0,arr H.length g 0 n 5),(1,N a),(2,N m),(3,N b),(4,func 223 [] []),(10,N m1),(13,N m2)] (aS H T g Ds1) e ff' σ':=
 BM [0,1,2,3,4,10,13] [sp 2 (Dl m1 1 l1 l2),sp 0 (AQ .i64 c1),sp 5 (AB m2 1 l3),sp 2 (AB m2 1 l3),sp 0 (Ib (id:=H.length) (g:=g) l4),st 0 (QS (aS H T g Ds1) (ldA g1)),sp 2 (Ib (id:=H.length) (g:=g) l5),st 0 (QS (aS H T g Ds1) (ldA g2)),sp 0 (Ib (id:=H.length) (g:=g) l5),st 0 (stA l6:Bh pur run (.w (.st 5)) [.aptr H.length g 5 m2 0,d1.pv] (aS H T g Ds1) [] (aS H T g (Ds1.set m2 d1))),sp 0 (Ib (id:=H.length) (g:=g) l4),st 0 (stA l7:Bh pur run (.w (.st 5)) [.aptr H.length g 5 (m2+1) 0,d2.pv] (aS H T g (Ds1.set m2 d1)) [] (aS H T g ((Ds1.set m2 d1).set (m2+1) d2))),sp 1 (AB m2 1 l3)] hl
theorem X8(l1:1≤m1)(l2:m1<2000000000)(c1:¬(m2:Int) < (((m1 - 1):Nat):Int)):LL Fs 1 [(0,arr H.length g 0 n 5),(1,N a),(2,N m),(3,N b),(4,func 223 [] []),(10,N m1),(13,N m2)] (aS H T g Ds1) (.exit 2) [(0,arr H.length g 0 n 5),(1,N a),(2,N m),(3,N b),(4,func 223 [] []),(10,N m1)] (aS H T g Ds1):=
 BA [0,1,2,3,4,10] [sp 2 (Dl m1 1 l1 l2),sp 0 (BN .i64 c1)]
theorem X7(c1:¬(m1:Int) < (m2:Int)):LL Fs 2 [(0,arr H.length g 0 n 5),(1,N a),(2,N m),(3,N b),(4,func 223 [] []),(14,N m1),(15,N m2)] (aS H T g Ds) (.exit 4) [(0,arr H.length g 0 n 5),(1,N a),(2,N m),(3,N b),(4,func 223 [] []),(14,N m1)] (aS H T g Ds):=
 BA [0,1,2,3,4,14] [sp 2 (BN .i64 c1)]
theorem U8(c1:(m1:Int) < (m2:Int))(l1:m1<2000000000)(l2:m2<2000000000)(l3:(m1+m2) < 2000000000)(l4:((m1+m2) / 2) < 2000000000)(l5:m<n)(g1:Ds[m]?=some d1)(l6:((m1+m2) / 2) < n)(g2:Ds[(m1+m2) / 2]?=some d2)(h1:E 223 [d1.pv,d2.pv] [] (I z1) [])(c2:z1<0)(hl:LL Fs 2 [(0,arr H.length g 0 n 5),(1,N a),(2,N m),(3,N b),(4,func 223 [] []),(14,N m1),(15,N ((m1+m2) / 2))] (aS H T g Ds) e ff' σ'):LL Fs 2 [(0,arr H.length g 0 n 5),(1,N a),(2,N m),(3,N b),(4,func 223 [] []),(14,N m1),(15,N m2)] (aS H T g Ds) e ff' σ':=
 BM [0,1,2,3,4,14,15] [sp 2 (AQ .i64 c1),sp 3 (AB m1 m2 l1 l2),sp 0 (MX (m1+m2) l3),sp 0 (Mr (m1+m2) l3),sp 0 (MZ ((m1+m2) / 2) l4),sp 4 (Ib (id:=H.length) (g:=g) l5),st 0 (QS (aS H T g Ds) (ldA g1)),sp 2 (Ib (id:=H.length) (g:=g) l6),st 0 (QS (aS H T g Ds) (ldA g2)),st 0 (Jy h1:Bh pur run (.w .calld) [.func 223 [] [],d1.pv,d2.pv] (aS H T g Ds) [some (I z1)] (aS H T g Ds)),sp 0 (AQ .i64 c2)] hl
theorem U7(c1:(m1:Int) < (m2:Int))(l1:m1<2000000000)(l2:m2<2000000000)(l3:(m1+m2) < 2000000000)(l4:((m1+m2) / 2) < 2000000000)(l5:m<n)(g1:Ds[m]?=some d1)(l6:((m1+m2) / 2) < n)(g2:Ds[(m1+m2) / 2]?=some d2)(h1:E 223 [d1.pv,d2.pv] [] (I z1) [])(c2:¬z1<0)(hl:LL Fs 2 [(0,arr H.length g 0 n 5),(1,N a),(2,N m),(3,N b),(4,func 223 [] []),(14,N (((m1+m2) / 2)+1)),(15,N m2)] (aS H T g Ds) e ff' σ'):LL Fs 2 [(0,arr H.length g 0 n 5),(1,N a),(2,N m),(3,N b),(4,func 223 [] []),(14,N m1),(15,N m2)] (aS H T g Ds) e ff' σ':=
 BM [0,1,2,3,4,14,15] [sp 2 (AQ .i64 c1),sp 3 (AB m1 m2 l1 l2),sp 0 (MX (m1+m2) l3),sp 0 (Mr (m1+m2) l3),sp 0 (MZ ((m1+m2) / 2) l4),sp 4 (Ib (id:=H.length) (g:=g) l5),st 0 (QS (aS H T g Ds) (ldA g1)),sp 2 (Ib (id:=H.length) (g:=g) l6),st 0 (QS (aS H T g Ds) (ldA g2)),st 0 (Jy h1:Bh pur run (.w .calld) [.func 223 [] [],d1.pv,d2.pv] (aS H T g Ds) [some (I z1)] (aS H T g Ds)),sp 0 (BN .i64 c2),sp 3 (AB ((m1+m2) / 2) 1 l4)] hl
theorem U6(c1:(m2:Int) > (m1:Int))(l1:1≤m2)(l2:m2<2000000000)(l3:(m2 - 1) < n)(g1:Ds1[m2 - 1]?=some d1)(l4:m2<n)(g2:Ds1[m2]?=some d2)(l5:m2<Ds1.length)(l6:(m2 - 1) < ((Ds1.set m2 d1)).length)(hl:LL Fs 3 [(0,arr H.length g 0 n 5),(1,N a),(2,N m),(3,N b),(4,func 223 [] []),(14,N m1),(17,N (m2 - 1))] (aS H T g ((Ds1.set m2 d1).set (m2 - 1) d2)) e ff' σ'):LL Fs 3 [(0,arr H.length g 0 n 5),(1,N a),(2,N m),(3,N b),(4,func 223 [] []),(14,N m1),(17,N m2)] (aS H T g Ds1) e ff' σ':=
 BM [0,1,2,3,4,14,17] [sp 2 (CX .i64 c1),sp 5 (Dl m2 1 l1 l2),sp 2 (Dl m2 1 l1 l2),sp 0 (Ib (id:=H.length) (g:=g) l3),st 0 (QS (aS H T g Ds1) (ldA g1)),sp 2 (Ib (id:=H.length) (g:=g) l4),st 0 (QS (aS H T g Ds1) (ldA g2)),sp 0 (Ib (id:=H.length) (g:=g) l4),st 0 (stA l5:Bh pur run (.w (.st 5)) [.aptr H.length g 5 m2 0,d1.pv] (aS H T g Ds1) [] (aS H T g (Ds1.set m2 d1))),sp 0 (Ib (id:=H.length) (g:=g) l3),st 0 (stA l6:Bh pur run (.w (.st 5)) [.aptr H.length g 5 (m2 - 1) 0,d2.pv] (aS H T g (Ds1.set m2 d1)) [] (aS H T g ((Ds1.set m2 d1).set (m2 - 1) d2))),sp 1 (Dl m2 1 l1 l2)] hl
theorem X6(c1:¬(m2:Int) > (m1:Int)):LL Fs 3 [(0,arr H.length g 0 n 5),(1,N a),(2,N m),(3,N b),(4,func 223 [] []),(14,N m1),(17,N m2)] (aS H T g Ds1) (.exit 6) [(0,arr H.length g 0 n 5),(1,N a),(2,N m),(3,N b),(4,func 223 [] []),(14,N m1)] (aS H T g Ds1):=
 BA [0,1,2,3,4,14] [sp 2 (DI .i64 c1)]
theorem X5(c1:¬(m1:Int) < (m2:Int)):LL Fs 4 [(0,arr H.length g 0 n 5),(1,N a),(2,N m),(3,N b),(4,func 223 [] []),(18,N ((a+b) / 2)),(19,N (((a+b) / 2)+m)),(20,N m1),(21,N m2),(22,N ((((a+b) / 2)+m) - 1))] (aS H T g Ds) (.exit 8) [(0,arr H.length g 0 n 5),(1,N a),(2,N m),(3,N b),(4,func 223 [] []),(18,N ((a+b) / 2)),(19,N (((a+b) / 2)+m)),(20,N m1)] (aS H T g Ds):=
 BA [0,1,2,3,4,18,19,20] [sp 2 (BN .i64 c1)]
theorem U0(c1:(m1:Int) < (m2:Int))(l1:m1<2000000000)(l2:m2<2000000000)(l3:(m1+m2) < 2000000000)(l4:((m1+m2) / 2) < 2000000000)(l5:((m1+m2) / 2)≤((((a+b) / 2)+m) - 1))(l6:((((a+b) / 2)+m) - 1) < 2000000000)(l7:(((((a+b) / 2)+m) - 1) - ((m1+m2) / 2)) < n)(g1:Ds[((((a+b) / 2)+m) - 1) - ((m1+m2) / 2)]?=some d1)(l8:((m1+m2) / 2) < n)(g2:Ds[(m1+m2) / 2]?=some d2)(h1:E 223 [d1.pv,d2.pv] [] (I z1) [])(c2:z1<0)(hl:LL Fs 4 [(0,arr H.length g 0 n 5),(1,N a),(2,N m),(3,N b),(4,func 223 [] []),(18,N ((a+b) / 2)),(19,N (((a+b) / 2)+m)),(20,N m1),(21,N ((m1+m2) / 2)),(22,N ((((a+b) / 2)+m) - 1))] (aS H T g Ds) e ff' σ'):LL Fs 4 [(0,arr H.length g 0 n 5),(1,N a),(2,N m),(3,N b),(4,func 223 [] []),(18,N ((a+b) / 2)),(19,N (((a+b) / 2)+m)),(20,N m1),(21,N m2),(22,N ((((a+b) / 2)+m) - 1))] (aS H T g Ds) e ff' σ':=
 BM [0,1,2,3,4,18,19,20,21,22] [sp 2 (AQ .i64 c1),sp 3 (AB m1 m2 l1 l2),sp 0 (MX (m1+m2) l3),sp 0 (Mr (m1+m2) l3),sp 0 (MZ ((m1+m2) / 2) l4),sp 5 (Dl ((((a+b) / 2)+m) - 1) ((m1+m2) / 2) l5 l6),sp 0 (Ib (id:=H.length) (g:=g) l7),st 0 (QS (aS H T g Ds) (ldA g1)),sp 2 (Ib (id:=H.length) (g:=g) l8),st 0 (QS (aS H T g Ds) (ldA g2)),st 0 (Jy h1:Bh pur run (.w .calld) [.func 223 [] [],d1.pv,d2.pv] (aS H T g Ds) [some (I z1)] (aS H T g Ds)),sp 0 (AQ .i64 c2)] hl
theorem UZ(c1:(m1:Int) < (m2:Int))(l1:m1<2000000000)(l2:m2<2000000000)(l3:(m1+m2) < 2000000000)(l4:((m1+m2) / 2) < 2000000000)(l5:((m1+m2) / 2)≤((((a+b) / 2)+m) - 1))(l6:((((a+b) / 2)+m) - 1) < 2000000000)(l7:(((((a+b) / 2)+m) - 1) - ((m1+m2) / 2)) < n)(g1:Ds[((((a+b) / 2)+m) - 1) - ((m1+m2) / 2)]?=some d1)(l8:((m1+m2) / 2) < n)(g2:Ds[(m1+m2) / 2]?=some d2)(h1:E 223 [d1.pv,d2.pv] [] (I z1) [])(c2:¬z1<0)(hl:LL Fs 4 [(0,arr H.length g 0 n 5),(1,N a),(2,N m),(3,N b),(4,func 223 [] []),(18,N ((a+b) / 2)),(19,N (((a+b) / 2)+m)),(20,N (((m1+m2) / 2)+1)),(21,N m2),(22,N ((((a+b) / 2)+m) - 1))] (aS H T g Ds) e ff' σ'):LL Fs 4 [(0,arr H.length g 0 n 5),(1,N a),(2,N m),(3,N b),(4,func 223 [] []),(18,N ((a+b) / 2)),(19,N (((a+b) / 2)+m)),(20,N m1),(21,N m2),(22,N ((((a+b) / 2)+m) - 1))] (aS H T g Ds) e ff' σ':=
 BM [0,1,2,3,4,18,19,20,21,22] [sp 2 (AQ .i64 c1),sp 3 (AB m1 m2 l1 l2),sp 0 (MX (m1+m2) l3),sp 0 (Mr (m1+m2) l3),sp 0 (MZ ((m1+m2) / 2) l4),sp 5 (Dl ((((a+b) / 2)+m) - 1) ((m1+m2) / 2) l5 l6),sp 0 (Ib (id:=H.length) (g:=g) l7),st 0 (QS (aS H T g Ds) (ldA g1)),sp 2 (Ib (id:=H.length) (g:=g) l8),st 0 (QS (aS H T g Ds) (ldA g2)),st 0 (Jy h1:Bh pur run (.w .calld) [.func 223 [] [],d1.pv,d2.pv] (aS H T g Ds) [some (I z1)] (aS H T g Ds)),sp 0 (BN .i64 c2),sp 3 (AB ((m1+m2) / 2) 1 l4)] hl
theorem BxQ:Rn 256 Ko:=fun _ _ _=>rfl
theorem BjM(L1:LL Ko 0 [(0,arr H.length g 0 n 5),(1,N n),(2,func 223 [] []),(6,I 20),(7,I 0),(8,I 20)] (aS H T g Ds) (.exit 0) [(0,arr H.length g 0 n 5),(1,N n),(2,func 223 [] []),(6,I 20),(7,N m1),(8,N m2)] (aS H T g Ds1))(h1:E 268 [.arr H.length g 0 n 5,N m1,N n,.func 223 [] []] (aS H T g Ds1) (.tuple []) (aS H T g Ds2))(L2:LL Ko 1 [(0,arr H.length g 0 n 5),(1,N n),(2,func 223 [] []),(6,I 20),(7,N m1),(8,N m2)] (aS H T g Ds2) (.exit 2) [(0,arr H.length g 0 n 5),(1,N n),(2,func 223 [] []),(6,N m3),(7,N m4),(8,N m5)] (aS H T g Ds3)):E 256 [.arr H.length g 0 n 5,N n,.func 223 [] []] (aS H T g Ds) (.tuple []) (aS H T g Ds3):=
 rule BxQ [sl 4 [0,1,2,6,7,8] L1,st 4 (oW h1),sl 0 [0,1,2,6,7,8] L2]
theorem Vl(c1:(m2:Int)≤(n:Int))(h1:E 268 [.arr H.length g 0 n 5,N m1,N m2,.func 223 [] []] (aS H T g Ds1) (.tuple []) (aS H T g Ds2))(l1:m2<2000000000)(hl:LL Ko 0 [(0,arr H.length g 0 n 5),(1,N n),(2,func 223 [] []),(6,I 20),(7,N m2),(8,N (m2+20))] (aS H T g Ds2) e ff' σ'):LL Ko 0 [(0,arr H.length g 0 n 5),(1,N n),(2,func 223 [] []),(6,I 20),(7,N m1),(8,N m2)] (aS H T g Ds1) e ff' σ':=
 BM [0,1,2,6,7,8] [sp 2 (QG .i64 c1),st 5 (oW h1),sp 4 (AB m2 20 l1)] hl
theorem Yi(c1:¬(m2:Int)≤(n:Int)):LL Ko 0 [(0,arr H.length g 0 n 5),(1,N n),(2,func 223 [] []),(6,I 20),(7,N m1),(8,N m2)] (aS H T g Ds1) (.exit 0) [(0,arr H.length g 0 n 5),(1,N n),(2,func 223 [] []),(6,I 20),(7,N m1),(8,N m2)] (aS H T g Ds1):=
 BA [0,1,2,6,7,8] [sp 2 (QH .i64 c1)]
theorem Yh(c1:¬(m1:Int) < (n:Int)):LL Ko 1 [(0,arr H.length g 0 n 5),(1,N n),(2,func 223 [] []),(6,N m1),(7,N m2),(8,N m3)] (aS H T g Ds1) (.exit 2) [(0,arr H.length g 0 n 5),(1,N n),(2,func 223 [] []),(6,N m1),(7,N m2),(8,N m3)] (aS H T g Ds1):=
 BA [0,1,2,6,7,8] [sp 2 (BN .i64 c1)]
theorem Vk(c1:(m1:Int) < (n:Int))(l1:2 * m1<2000000000)(L1:LL Ko 2 [(0,arr H.length g 0 n 5),(1,N n),(2,func 223 [] []),(6,N m1),(7,I 0),(8,N (2 * m1))] (aS H T g Ds1) (.exit 4) [(0,arr H.length g 0 n 5),(1,N n),(2,func 223 [] []),(6,N m1),(7,N m4),(8,N m5)] (aS H T g Ds3))(l2:m4<2000000000)(l3:m1<2000000000)(c2:(((m4+m1):Nat):Int) < (n:Int))(h1:E 269 [.arr H.length g 0 n 5,N m4,N (m4+m1),N n,.func 223 [] []] (aS H T g Ds3) (.tuple []) (aS H T g Ds4))(l4:m1 * 2<2000000000)(hl:LL Ko 1 [(0,arr H.length g 0 n 5),(1,N n),(2,func 223 [] []),(6,N (m1 * 2)),(7,N m4),(8,N m5)] (aS H T g Ds4) e ff' σ'):LL Ko 1 [(0,arr H.length g 0 n 5),(1,N n),(2,func 223 [] []),(6,N m1),(7,N m2),(8,N m3)] (aS H T g Ds1) e ff' σ':=
 BM [0,1,2,6,7,8] [sp 2 (AQ .i64 c1),sp 2 (qR 2 m1 l1),sl 2 [0,1,2,6,7,8] L1,sp 2 (AB m4 m1 l2 l3),sp 3 (AQ .i64 c2),st 6 (oW h1),sp 1 (qR m1 2 l4)] hl
theorem Vj(c1:(m1:Int) < (n:Int))(l1:2 * m1<2000000000)(L1:LL Ko 2 [(0,arr H.length g 0 n 5),(1,N n),(2,func 223 [] []),(6,N m1),(7,I 0),(8,N (2 * m1))] (aS H T g Ds1) (.exit 4) [(0,arr H.length g 0 n 5),(1,N n),(2,func 223 [] []),(6,N m1),(7,N m4),(8,N m5)] (aS H T g Ds3))(l2:m4<2000000000)(l3:m1<2000000000)(c2:¬(((m4+m1):Nat):Int) < (n:Int))(l4:m1 * 2<2000000000)(hl:LL Ko 1 [(0,arr H.length g 0 n 5),(1,N n),(2,func 223 [] []),(6,N (m1 * 2)),(7,N m4),(8,N m5)] (aS H T g Ds3) e ff' σ'):LL Ko 1 [(0,arr H.length g 0 n 5),(1,N n),(2,func 223 [] []),(6,N m1),(7,N m2),(8,N m3)] (aS H T g Ds1) e ff' σ':=
 BM [0,1,2,6,7,8] [sp 2 (AQ .i64 c1),sp 2 (qR 2 m1 l1),sl 2 [0,1,2,6,7,8] L1,sp 2 (AB m4 m1 l2 l3),sp 3 (BN .i64 c2),sp 2 (qR m1 2 l4)] hl
theorem Vi(c1:(m5:Int)≤(n:Int))(l1:m4<2000000000)(l2:m1<2000000000)(h1:E 269 [.arr H.length g 0 n 5,N m4,N (m4+m1),N m5,.func 223 [] []] (aS H T g Ds3) (.tuple []) (aS H T g Ds4))(l3:2 * m1<2000000000)(l4:m5<2000000000)(l5:(2 * m1) < 2000000000)(hl:LL Ko 2 [(0,arr H.length g 0 n 5),(1,N n),(2,func 223 [] []),(6,N m1),(7,N m5),(8,N (m5+(2 * m1)))] (aS H T g Ds4) e ff' σ'):LL Ko 2 [(0,arr H.length g 0 n 5),(1,N n),(2,func 223 [] []),(6,N m1),(7,N m4),(8,N m5)] (aS H T g Ds3) e ff' σ':=
 BM [0,1,2,6,7,8] [sp 2 (QG .i64 c1),sp 5 (AB m4 m1 l1 l2),st 2 (oW h1),sp 4 (qR 2 m1 l3),sp 0 (AB m5 (2 * m1) l4 l5)] hl
theorem Yg(c1:¬(m5:Int)≤(n:Int)):LL Ko 2 [(0,arr H.length g 0 n 5),(1,N n),(2,func 223 [] []),(6,N m1),(7,N m4),(8,N m5)] (aS H T g Ds3) (.exit 4) [(0,arr H.length g 0 n 5),(1,N n),(2,func 223 [] []),(6,N m1),(7,N m4),(8,N m5)] (aS H T g Ds3):=
 BA [0,1,2,6,7,8] [sp 2 (QH .i64 c1)]
theorem R99:Rn 222 a222:=fun _ _ _=>rfl
theorem r99(h1:E 256 [.arr H.length g 0 n 5,N n,.func 223 [] []] (aS H T g Ds) (.tuple []) (aS H T g Ds1)):E 222 [.arr H.length g 0 n 5,.func 223 [] []] (aS H T g Ds) (.tuple []) (aS H T g Ds1):=
 rule R99 [st 4 (oW h1)]
end Go.Abs.Z

namespace Go.Abs.Z
open Go.Proofs Go.RowKit
def Hv(v:PV):Prop:=v=.nils∨∃i g o l s,v=.arr i g o l s
theorem Hv.nil:Hv .nils:=.inl rfl
theorem Hv.arr(i g o l s:Nat):Hv (.arr i g o l s):=.inr ⟨_,_,_,_,_,rfl⟩
theorem Hv.Cc{v:PV}(h:Hv v):v.Cc=v:=by rcases h with rfl | ⟨_,_,_,_,_,rfl⟩<;>rfl
theorem Hv.Ae{v:PV}(h:Hv v):v.Ae=v:=by rcases h with rfl | ⟨_,_,_,_,_,rfl⟩<;>rfl
theorem Hv.free{v:PV}(h:Hv v):v.free=true:=by rcases h with rfl | ⟨_,_,_,_,_,rfl⟩<;>rfl
theorem Hv.flat{v:PV}(h:Hv v):v.isSelf=false:=by rcases h with rfl | ⟨_,_,_,_,_,rfl⟩<;>rfl
theorem Hv.one{v:PV}(h:Hv v):v.one=true:=by rcases h with rfl | ⟨_,_,_,_,_,rfl⟩<;>rfl
theorem Kg{v:PV}(h:Hv v):Be .mv [v]=some [some v]:=Pm h.free h.Ae
theorem ldW{s:List UInt8}{ls:List Tk}{k l:Nat}{wr:PV}{b:Int}{T:Sto}(h:Hv wr):Fq (.ld 1 false) [.ref 0 4] (pc s ls k l wr b::T)=some [some wr]:=by rcases h with rfl | ⟨_,_,_,_,_,rfl⟩<;>rfl
def q0(s:List UInt8)(v:PV):List PV:=[.str s,v,N 0,N 0,.nils,I (-1)]
theorem rC{s:List UInt8}{B:Sto}(L:List PV):Bh pur run (.w .ldo) [.ref 0 1] (q0 s (Bw 4 L)::B) [some (Bw 4 L)] (q0 s (BG 4 L)::B):=by
 refine⟨0,fun n _=>?_⟩
 cases L<;>rfl
theorem nS{s:List UInt8}{B:Sto}(L M:List PV):Bh pur run (.w .sto) [.ref 0 1,Bw 4 M] (q0 s (BG 4 L)::B) [some (BG 4 M)] (q0 s (Bw 4 M)::B):=by
 refine⟨0,fun n _=>?_⟩
 cases L<;>cases M<;>rfl
@[simp] theorem Bz5(f:FuncId):(PV.func f [] []).flat=true:=rfl
@[simp] theorem AY0(n:Nat)(es:List PV):(BG n es).flat=true:=ND n es
end Go.Abs.Z

namespace Go.Abs.Z
open PV
open Go.Proofs Go.RowKit
variable{σ σ1 σ2 σ3 B1 B2 σ':Sto}{a b m1 n m2 m3:Nat}{s s1:List UInt8}{tl1:List Tk}{z1:Int}{hd1 hd2:PV}{tl2 es1:List PV}{t1:Tk}{e:Cu}{ff':FF}{g:FuncId}{U1:Tr}
theorem AW6(l1:a<2000000000)(L1:LL PZ 0 [(0,nils),(1,N a),(2,N b),(3,func 223 [] []),(8,N (a+1))] σ (.exit 0) [(1,N a)] σ1):E 268 [.nils,N a,N b,.func 223 [] []] σ (.tuple []) σ1:=
 rule BxL [sp 1 (AB a 1 l1),sl 1 [0,1,2,3,8] L1]
theorem Vd(c1:¬(m1:Int) < (b:Int)):LL PZ 0 [(0,nils),(1,N a),(2,N b),(3,func 223 [] []),(8,N m1)] σ1 (.exit 0) [(1,N a)] σ1:=
 BA [1] [sp 2 (BN .i64 c1)]
theorem AW8{m4:Nat}{m5:Nat}(L1:LL Ko 0 [(0,nils),(1,N n),(2,func 223 [] []),(6,I 20),(7,I 0),(8,I 20)] σ (.exit 0) [(0,nils),(1,N n),(2,func 223 [] []),(6,I 20),(7,N m1),(8,N m2)] σ1)(h1:E 268 [.nils,N m1,N n,.func 223 [] []] σ1 (.tuple []) σ2)(L2:LL Ko 1 [(0,nils),(1,N n),(2,func 223 [] []),(6,I 20),(7,N m1),(8,N m2)] σ2 (.exit 2) [(0,nils),(1,N n),(2,func 223 [] []),(6,N m3),(7,N m4),(8,N m5)] σ3):E 256 [.nils,N n,.func 223 [] []] σ (.tuple []) σ3:=
 rule BxQ [sl 4 [0,1,2,6,7,8] L1,st 4 (oW h1),sl 0 [0,1,2,6,7,8] L2]
theorem Vh(c1:¬(m2:Int)≤(n:Int)):LL Ko 0 [(0,nils),(1,N n),(2,func 223 [] []),(6,I 20),(7,N m1),(8,N m2)] σ1 (.exit 0) [(0,nils),(1,N n),(2,func 223 [] []),(6,I 20),(7,N m1),(8,N m2)] σ1:=
 BA [0,1,2,6,7,8] [sp 2 (QH .i64 c1)]
theorem Vg(c1:¬(m1:Int) < (n:Int)):LL Ko 1 [(0,nils),(1,N n),(2,func 223 [] []),(6,N m1),(7,N m2),(8,N m3)] σ1 (.exit 2) [(0,nils),(1,N n),(2,func 223 [] []),(6,N m1),(7,N m2),(8,N m3)] σ1:=
 BA [0,1,2,6,7,8] [sp 2 (BN .i64 c1)]
theorem BjB(h1:E 256 [.nils,I 0,.func 223 [] []] σ (.tuple []) σ1):E 222 [.nils,.func 223 [] []] σ (.tuple []) σ1:=
 rule R99 [st 4 (oW h1)]
theorem R46:Rn 151 NL:=fun _ _ _=>rfl
theorem AV3(h1:E 59 [.str s] [] (.tuple [.slice false 4 (tl1.map Tk.pv),I z1]) [])(c1:z1=0)(hhd1:Hv hd1)(L1:LL NL 0 [(0,str s),(7,r0),(8,nils),(26,slice false 4 (tl1.map Tk.pv)),(27,N tl1.length),(28,I 0)] (q0 s .nils::[]) (.exit 0) [(0,str s),(7,r0),(8,hd1),(26,slice false 4 (tl1.map Tk.pv))] (q0 s (Bw 4 tl2)::B1)):E 151 [.str s] [] (.tuple [r0,hd1,I 0]) (q0 s (Bw 4 tl2)::B1):=
 Bt R46 [st 4 (oC h1),sp 6 (DF .i64 c1),sp 7 (FL false 4 tl1),sl 1 [0,7,8,26,27,28] L1,sp 1 (Kg hhd1),sp 1 (Kg hhd1)] (by rcases hhd1 with rfl | ⟨_,_,_,_,_,rfl⟩<;>rfl:(Gm [(2,r0),(3,hd1),(4,I 0)] [(2,none),(3,none),(4,none)]).bind DL=some (.tuple [r0,hd1,I 0]))
theorem aA(hhd1:Hv hd1)(c1:¬(m1:Int) < (tl1.length:Int)):LL NL 0 [(0,str s),(7,r0),(8,hd1),(26,slice false 4 (tl1.map Tk.pv)),(27,N tl1.length),(28,N m1)] (q0 s (Bw 4 tl2)::B1) (.exit 0) [(0,str s),(7,r0),(8,hd1),(26,slice false 4 (tl1.map Tk.pv))] (q0 s (Bw 4 tl2)::B1):=
 BA [0,7,8,26] [sp 0 (BN .i64 c1)]
theorem Xv(hhd1:Hv hd1)(c1:(m1:Int) < (tl1.length:Int))(g1:tl1[m1]?=some t1)(x1:Be (.ssl true true) [.str s,N t1.a,N t1.e]=some [some (.str s1)])(c2:(t1.k:Int)=4)(hhd2:Hv hd2)(x2:Bh pur run (.w (.Gf 5)) [hd1,.slice true 5 [.agg [I 1,N t1.a,N t1.e,.str [],.nils]]] (q0 s (Bw 4 tl2)::B1) [some hd2] (q0 s (Bw 4 tl2)::B2))(l1:m1<2000000000)(hl:LL NL 0 [(0,str s),(7,r0),(8,hd2),(26,slice false 4 (tl1.map Tk.pv)),(27,N tl1.length),(28,N (m1+1))] (q0 s (Bw 4 tl2)::B2) e ff' σ'):LL NL 0 [(0,str s),(7,r0),(8,hd1),(26,slice false 4 (tl1.map Tk.pv)),(27,N tl1.length),(28,N m1)] (q0 s (Bw 4 tl2)::B1) e ff' σ':=
 BM [0,7,8,26,27,28] [sp 0 (AQ .i64 c1),sp 1 (BO (o:=false) (s:=4) m1 g1),sp 8 x1,sp 4 (BJ .i64 c2),sp 6 (Kg hhd1),st 7 x2,sp 0 (Kg hhd2),sp 2 (DF .i64 c2),sp 1 (AB m1 1 l1)] hl
theorem Xu(hhd1:Hv hd1)(c1:(m1:Int) < (tl1.length:Int))(g1:tl1[m1]?=some t1)(x1:Be (.ssl true true) [.str s,N t1.a,N t1.e]=some [some (.str s1)])(c2:(t1.k:Int)≠4)(c3:(t1.k:Int)=2)(h1:E 221 [.str s1] [] (.tuple [I z1,.bool true]) [])(l1:tl2.length+1≤Bn)(l2:m1<2000000000)(hl:LL NL 0 [(0,str s),(7,r0),(8,hd1),(26,slice false 4 (tl1.map Tk.pv)),(27,N tl1.length),(28,N (m1+1))] (q0 s (Bw 4 (tl2++[t1.pv]))::B1) e ff' σ'):LL NL 0 [(0,str s),(7,r0),(8,hd1),(26,slice false 4 (tl1.map Tk.pv)),(27,N tl1.length),(28,N m1)] (q0 s (Bw 4 tl2)::B1) e ff' σ':=
 BM [0,7,8,26,27,28] [sp 0 (AQ .i64 c1),sp 1 (BO (o:=false) (s:=4) m1 g1),sp 8 x1,sp 4 (AX .i64 c2),sp 2 (BJ .i64 c3),st 3 (oCS (q0 s (Bw 4 tl2)::B1) h1),sp 13 (DU .i64 c2),st 5 (rC tl2:Bh pur run (.w .ldo) [.ref 0 1] (q0 s (Bw 4 tl2)::B1) [some (Bw 4 tl2)] (q0 s (BG 4 tl2)::B1)),st 2 (FV (Gr l1 (by simp[hhd1.Cc,hhd1.Ae,hhd1.free,hhd1.flat,hhd1.one])):Bh pur run (.p (.app 4)) [Bw 4 tl2,.slice true 4 [t1.pv]] (q0 s (BG 4 tl2)::B1) [some (Bw 4 (tl2++[t1.pv])),some (BG 4 tl2)] (q0 s (BG 4 tl2)::B1)),st 2 (nS tl2 (tl2++[t1.pv]):Bh pur run (.w .sto) [.ref 0 1,Bw 4 (tl2++[t1.pv])] (q0 s (BG 4 tl2)::B1) [some (BG 4 (tl2++[t1.pv]))] (q0 s (Bw 4 (tl2++[t1.pv]))::B1)),sp 0 (AB m1 1 l2)] hl
theorem Xt(hhd1:Hv hd1)(c1:(m1:Int) < (tl1.length:Int))(g1:tl1[m1]?=some t1)(x1:Be (.ssl true true) [.str s,N t1.a,N t1.e]=some [some (.str s1)])(c2:(t1.k:Int)≠4)(c3:(t1.k:Int)=2)(h1:E 221 [.str s1] [] (.tuple [I z1,.bool false]) [])(hhd2:Hv hd2)(x2:Bh pur run (.w (.Gf 5)) [hd1,.slice true 5 [.agg [I 2,N t1.a,N t1.e,.str [],.nils]]] (q0 s (Bw 4 tl2)::B1) [some hd2] (q0 s (Bw 4 tl2)::B2))(l1:tl2.length+1≤Bn)(l2:m1<2000000000)(hl:LL NL 0 [(0,str s),(7,r0),(8,hd2),(26,slice false 4 (tl1.map Tk.pv)),(27,N tl1.length),(28,N (m1+1))] (q0 s (Bw 4 (tl2++[t1.pv]))::B2) e ff' σ'):LL NL 0 [(0,str s),(7,r0),(8,hd1),(26,slice false 4 (tl1.map Tk.pv)),(27,N tl1.length),(28,N m1)] (q0 s (Bw 4 tl2)::B1) e ff' σ':=
 BM [0,7,8,26,27,28] [sp 0 (AQ .i64 c1),sp 1 (BO (o:=false) (s:=4) m1 g1),sp 8 x1,sp 4 (AX .i64 c2),sp 2 (BJ .i64 c3),st 3 (oCS (q0 s (Bw 4 tl2)::B1) h1),sp 12 (Kg hhd1),st 7 x2,sp 0 (Kg hhd2),sp 2 (DU .i64 c2),st 5 (rC tl2:Bh pur run (.w .ldo) [.ref 0 1] (q0 s (Bw 4 tl2)::B2) [some (Bw 4 tl2)] (q0 s (BG 4 tl2)::B2)),st 2 (FV (Gr l1 (by simp[hhd1.Cc,hhd1.Ae,hhd1.free,hhd1.flat,hhd1.one,hhd2.Cc,hhd2.Ae,hhd2.free,hhd2.flat,hhd2.one])):Bh pur run (.p (.app 4)) [Bw 4 tl2,.slice true 4 [t1.pv]] (q0 s (BG 4 tl2)::B2) [some (Bw 4 (tl2++[t1.pv])),some (BG 4 tl2)] (q0 s (BG 4 tl2)::B2)),st 2 (nS tl2 (tl2++[t1.pv]):Bh pur run (.w .sto) [.ref 0 1,Bw 4 (tl2++[t1.pv])] (q0 s (BG 4 tl2)::B2) [some (BG 4 (tl2++[t1.pv]))] (q0 s (Bw 4 (tl2++[t1.pv]))::B2)),sp 0 (AB m1 1 l2)] hl
theorem Xr(hhd1:Hv hd1)(c1:(m1:Int) < (tl1.length:Int))(g1:tl1[m1]?=some t1)(x1:Be (.ssl true true) [.str s,N t1.a,N t1.e]=some [some (.str s1)])(c2:(t1.k:Int)≠4)(c3:(t1.k:Int)≠2)(c4:(t1.k:Int)≠0)(l1:tl2.length+1≤Bn)(l2:m1<2000000000)(hl:LL NL 0 [(0,str s),(7,r0),(8,hd1),(26,slice false 4 (tl1.map Tk.pv)),(27,N tl1.length),(28,N (m1+1))] (q0 s (Bw 4 (tl2++[t1.pv]))::B1) e ff' σ'):LL NL 0 [(0,str s),(7,r0),(8,hd1),(26,slice false 4 (tl1.map Tk.pv)),(27,N tl1.length),(28,N m1)] (q0 s (Bw 4 tl2)::B1) e ff' σ':=
 BM [0,7,8,26,27,28] [sp 0 (AQ .i64 c1),sp 1 (BO (o:=false) (s:=4) m1 g1),sp 8 x1,sp 4 (AX .i64 c2),sp 2 (AX .i64 c3),sp 2 (AX .i64 c4),sp 7 (DU .i64 c2),st 5 (rC tl2:Bh pur run (.w .ldo) [.ref 0 1] (q0 s (Bw 4 tl2)::B1) [some (Bw 4 tl2)] (q0 s (BG 4 tl2)::B1)),st 2 (FV (Gr l1 (by simp[hhd1.Cc,hhd1.Ae,hhd1.free,hhd1.flat,hhd1.one])):Bh pur run (.p (.app 4)) [Bw 4 tl2,.slice true 4 [t1.pv]] (q0 s (BG 4 tl2)::B1) [some (Bw 4 (tl2++[t1.pv])),some (BG 4 tl2)] (q0 s (BG 4 tl2)::B1)),st 2 (nS tl2 (tl2++[t1.pv]):Bh pur run (.w .sto) [.ref 0 1,Bw 4 (tl2++[t1.pv])] (q0 s (BG 4 tl2)::B1) [some (BG 4 (tl2++[t1.pv]))] (q0 s (Bw 4 (tl2++[t1.pv]))::B1)),sp 0 (AB m1 1 l2)] hl
theorem Xq(hhd1:Hv hd1)(c1:(m1:Int) < (tl1.length:Int))(g1:tl1[m1]?=some t1)(x1:Be (.ssl true true) [.str s,N t1.a,N t1.e]=some [some (.str s1)])(c2:(t1.k:Int)≠4)(c3:(t1.k:Int)≠2)(c4:(t1.k:Int)=0)(c5:(s1.length:Int) > 16)(hhd2:Hv hd2)(x2:Bh pur run (.w (.Gf 5)) [hd1,.slice true 5 [.agg [I 3,N t1.a,N t1.e,.str [],.nils]]] (q0 s (Bw 4 tl2)::B1) [some hd2] (q0 s (Bw 4 tl2)::B2))(l1:tl2.length+1≤Bn)(l2:m1<2000000000)(hl:LL NL 0 [(0,str s),(7,r0),(8,hd2),(26,slice false 4 (tl1.map Tk.pv)),(27,N tl1.length),(28,N (m1+1))] (q0 s (Bw 4 (tl2++[t1.pv]))::B2) e ff' σ'):LL NL 0 [(0,str s),(7,r0),(8,hd1),(26,slice false 4 (tl1.map Tk.pv)),(27,N tl1.length),(28,N m1)] (q0 s (Bw 4 tl2)::B1) e ff' σ':=
 BM [0,7,8,26,27,28] [sp 0 (AQ .i64 c1),sp 1 (BO (o:=false) (s:=4) m1 g1),sp 8 x1,sp 4 (AX .i64 c2),sp 2 (AX .i64 c3),sp 2 (BJ .i64 c4),sp 4 (CX .i64 c5),sp 5 (Kg hhd1),st 7 x2,sp 0 (Kg hhd2),sp 2 (DU .i64 c2),st 5 (rC tl2:Bh pur run (.w .ldo) [.ref 0 1] (q0 s (Bw 4 tl2)::B2) [some (Bw 4 tl2)] (q0 s (BG 4 tl2)::B2)),st 2 (FV (Gr l1 (by simp[hhd1.Cc,hhd1.Ae,hhd1.free,hhd1.flat,hhd1.one,hhd2.Cc,hhd2.Ae,hhd2.free,hhd2.flat,hhd2.one])):Bh pur run (.p (.app 4)) [Bw 4 tl2,.slice true 4 [t1.pv]] (q0 s (BG 4 tl2)::B2) [some (Bw 4 (tl2++[t1.pv])),some (BG 4 tl2)] (q0 s (BG 4 tl2)::B2)),st 2 (nS tl2 (tl2++[t1.pv]):Bh pur run (.w .sto) [.ref 0 1,Bw 4 (tl2++[t1.pv])] (q0 s (BG 4 tl2)::B2) [some (BG 4 (tl2++[t1.pv]))] (q0 s (Bw 4 (tl2++[t1.pv]))::B2)),sp 0 (AB m1 1 l2)] hl
theorem Xp(hhd1:Hv hd1)(c1:(m1:Int) < (tl1.length:Int))(g1:tl1[m1]?=some t1)(x1:Be (.ssl true true) [.str s,N t1.a,N t1.e]=some [some (.str s1)])(c2:(t1.k:Int)≠4)(c3:(t1.k:Int)≠2)(c4:(t1.k:Int)=0)(c5:¬(s1.length:Int) > 16)(l1:tl2.length+1≤Bn)(l2:m1<2000000000)(hl:LL NL 0 [(0,str s),(7,r0),(8,hd1),(26,slice false 4 (tl1.map Tk.pv)),(27,N tl1.length),(28,N (m1+1))] (q0 s (Bw 4 (tl2++[t1.pv]))::B1) e ff' σ'):LL NL 0 [(0,str s),(7,r0),(8,hd1),(26,slice false 4 (tl1.map Tk.pv)),(27,N tl1.length),(28,N m1)] (q0 s (Bw 4 tl2)::B1) e ff' σ':=
 BM [0,7,8,26,27,28] [sp 0 (AQ .i64 c1),sp 1 (BO (o:=false) (s:=4) m1 g1),sp 8 x1,sp 4 (AX .i64 c2),sp 2 (AX .i64 c3),sp 2 (BJ .i64 c4),sp 4 (DI .i64 c5),sp 6 (DU .i64 c2),st 5 (rC tl2:Bh pur run (.w .ldo) [.ref 0 1] (q0 s (Bw 4 tl2)::B1) [some (Bw 4 tl2)] (q0 s (BG 4 tl2)::B1)),st 2 (FV (Gr l1 (by simp[hhd1.Cc,hhd1.Ae,hhd1.free,hhd1.flat,hhd1.one])):Bh pur run (.p (.app 4)) [Bw 4 tl2,.slice true 4 [t1.pv]] (q0 s (BG 4 tl2)::B1) [some (Bw 4 (tl2++[t1.pv])),some (BG 4 tl2)] (q0 s (BG 4 tl2)::B1)),st 2 (nS tl2 (tl2++[t1.pv]):Bh pur run (.w .sto) [.ref 0 1,Bw 4 (tl2++[t1.pv])] (q0 s (BG 4 tl2)::B1) [some (BG 4 (tl2++[t1.pv]))] (q0 s (Bw 4 (tl2++[t1.pv]))::B1)),sp 0 (AB m1 1 l2)] hl
theorem R48:Rn 153 BwH:=fun _ _ _=>rfl
theorem r48{ls:List Tk}{k:Nat}{l:Nat}{wr:PV}{bf:Int}{T:Sto}{hx:PV}(hhx:Hv hx)(hwr:Hv wr){σ1:Sto}{hd1:PV}{σ2:Sto}{es1:List PV}{σ3:Sto}(hhd1:Hv hd1)(x1:Bh pur run (.w (.Gf 5)) [hx,wr] (pc s ls k l wr bf::T) [some hd1] σ1)(h1:E 222 [hd1,.func 223 [] []] σ1 (.tuple []) σ2)(x2:Bh pur run (.w .frz) [hd1] σ2 [some (BG 5 es1)] σ3):E 153 [r0,hx] (pc s ls k l wr bf::T) (BG 5 es1) σ3:=
 Bt R48 [sp 1 (Kg hhx),st 3 (QS (pc s ls k l wr bf::T) (ldW hwr)),st 0 x1,sp 0 (Kg hhd1),sp 0 (Kg hhd1),st 0 (Ct h1 (by rfl) (by simp[hhx.Cc,hhx.Ae,hhx.free,hhx.flat,hhx.one,hwr.Cc,hwr.Ae,hwr.free,hwr.flat,hwr.one,hhd1.Cc,hhd1.Ae,hhd1.free,hhd1.flat,hhd1.one]) (by simp[hhx.Cc,hhx.Ae,hhx.free,hhx.flat,hhx.one,hwr.Cc,hwr.Ae,hwr.free,hwr.flat,hwr.one,hhd1.Cc,hhd1.Ae,hhd1.free,hhd1.flat,hhd1.one]) (by simp[hhx.Cc,hhx.Ae,hhx.free,hhx.flat,hhx.one,hwr.Cc,hwr.Ae,hwr.free,hwr.flat,hwr.one,hhd1.Cc,hhd1.Ae,hhd1.free,hhd1.flat,hhd1.one]):Bh pur run (.w (.call 222)) [hd1,.func 223 [] []] σ1 [some (.tuple [])] σ2),st 0 x2,sp 0 (GI 5 es1)] (by simp[Gs,DL]:(Gm [(4,BG 5 es1)] [(4,none)]).bind DL=some (BG 5 es1))
theorem R22:Rn 115 BwP:=fun _ _ _=>rfl
theorem AW4{hd3:PV}{σ4:Sto}{σ5:Sto}(hhd1:Hv hd1)(h1:E 151 [.str s] [] (.tuple [r0,hd1,I z1]) σ1)(c1:z1=0)(pg:pur g=false)(h2:E g [r0] σ1 U1.pv σ2)(h3:E 152 [r0,I 0] σ2 t1.pv σ2)(c2:(t1.k:Int)≠5)(hhd2:Hv hd2)(x1:Fq (.ld 1 false) [.ref 0 4] σ2=some [some hd2])(hhd3:Hv hd3)(x2:Bh pur run (.w (.Gf 5)) [hd2,.slice true 5 [.agg [I 4,N t1.a,N t1.e,.str [101,110,100],.nils]]] σ2 [some hd3] σ3)(x3:Bh pur run (.w (.st 1)) [.ref 0 4,hd3] σ3 [] σ4)(h4:E 153 [r0,hd1] σ4 (BG 5 es1) σ5):E 115 [.str s,.func g [] []] [] (.tuple [U1.pv,BG 5 es1,I 0]) σ5:=
 Bt R22 [st 4 (Ct h1 (by rfl) (by simp[hhd1.Cc,hhd1.Ae,hhd1.free,hhd1.flat,hhd1.one,hhd2.Cc,hhd2.Ae,hhd2.free,hhd2.flat,hhd2.one,hhd3.Cc,hhd3.Ae,hhd3.free,hhd3.flat,hhd3.one]) (by simp[hhd1.Cc,hhd1.Ae,hhd1.free,hhd1.flat,hhd1.one,hhd2.Cc,hhd2.Ae,hhd2.free,hhd2.flat,hhd2.one,hhd3.Cc,hhd3.Ae,hhd3.free,hhd3.flat,hhd3.one]) (by simp[hhd1.Cc,hhd1.Ae,hhd1.free,hhd1.flat,hhd1.one,hhd2.Cc,hhd2.Ae,hhd2.free,hhd2.flat,hhd2.one,hhd3.Cc,hhd3.Ae,hhd3.free,hhd3.flat,hhd3.one]):Bh pur run (.w (.call 151)) [.str s] [] [some (.tuple [r0,hd1,I z1])] σ1),st 1 (FV (JB 0 (by rfl) (by simp[hhd1.Cc,hhd1.Ae,hhd1.free,hhd1.flat,hhd1.one,hhd2.Cc,hhd2.Ae,hhd2.free,hhd2.flat,hhd2.one,hhd3.Cc,hhd3.Ae,hhd3.free,hhd3.flat,hhd3.one])):Bh pur run (.p (.ext 0)) [.tuple [r0,hd1,I z1]] σ1 [some r0] σ1),st 0 (FV (JB 1 (by rfl) (by simp[hhd1.Cc,hhd1.Ae,hhd1.free,hhd1.flat,hhd1.one,hhd2.Cc,hhd2.Ae,hhd2.free,hhd2.flat,hhd2.one,hhd3.Cc,hhd3.Ae,hhd3.free,hhd3.flat,hhd3.one])):Bh pur run (.p (.ext 1)) [.tuple [r0,hd1,I z1]] σ1 [some hd1] σ1),st 0 (FV (JB 2 (by rfl) (by simp[hhd1.Cc,hhd1.Ae,hhd1.free,hhd1.flat,hhd1.one,hhd2.Cc,hhd2.Ae,hhd2.free,hhd2.flat,hhd2.one,hhd3.Cc,hhd3.Ae,hhd3.free,hhd3.flat,hhd3.one])):Bh pur run (.p (.ext 2)) [.tuple [r0,hd1,I z1]] σ1 [some (I z1)] σ1),sp 1 (Kg hhd1),sp 2 (DF .i64 c1),st 3 (NW h2 pg (by simp[hhd1.Cc,hhd1.Ae,hhd1.free,hhd1.flat,hhd1.one,hhd2.Cc,hhd2.Ae,hhd2.free,hhd2.flat,hhd2.one,hhd3.Cc,hhd3.Ae,hhd3.free,hhd3.flat,hhd3.one]) (by simp[hhd1.Cc,hhd1.Ae,hhd1.free,hhd1.flat,hhd1.one,hhd2.Cc,hhd2.Ae,hhd2.free,hhd2.flat,hhd2.one,hhd3.Cc,hhd3.Ae,hhd3.free,hhd3.flat,hhd3.one]) (by simp[hhd1.Cc,hhd1.Ae,hhd1.free,hhd1.flat,hhd1.one,hhd2.Cc,hhd2.Ae,hhd2.free,hhd2.flat,hhd2.one,hhd3.Cc,hhd3.Ae,hhd3.free,hhd3.flat,hhd3.one]):Bh pur run (.w .calld) [.func g [] [],r0] σ1 [some U1.pv] σ2),sp 1 (BF U1),st 1 (oW h3),sp 4 (DU .i64 c2),st 5 (QS σ2 x1),st 6 x2,st 2 x3,sp 0 (rA U1),sp 1 (Kg hhd1),st 0 (Ct h4 (by rfl) (by simp[hhd1.Cc,hhd1.Ae,hhd1.free,hhd1.flat,hhd1.one,hhd2.Cc,hhd2.Ae,hhd2.free,hhd2.flat,hhd2.one,hhd3.Cc,hhd3.Ae,hhd3.free,hhd3.flat,hhd3.one]) (by simp[hhd1.Cc,hhd1.Ae,hhd1.free,hhd1.flat,hhd1.one,hhd2.Cc,hhd2.Ae,hhd2.free,hhd2.flat,hhd2.one,hhd3.Cc,hhd3.Ae,hhd3.free,hhd3.flat,hhd3.one]) (by simp[hhd1.Cc,hhd1.Ae,hhd1.free,hhd1.flat,hhd1.one,hhd2.Cc,hhd2.Ae,hhd2.free,hhd2.flat,hhd2.one,hhd3.Cc,hhd3.Ae,hhd3.free,hhd3.flat,hhd3.one]):Bh pur run (.w (.call 153)) [r0,hd1] σ4 [some (BG 5 es1)] σ5),st 0 (zl σ5 U1),sp 0 (GI 5 es1)] (by simp[Gs,DL]:(Gm [(4,U1.pv),(5,BG 5 es1),(6,I 0)] [(4,some 5),(5,none),(6,none)]).bind DL=some (.tuple [U1.pv,BG 5 es1,I 0]))
theorem AVZ(hhd1:Hv hd1)(h1:E 151 [.str s] [] (.tuple [r0,hd1,I z1]) σ1)(c1:z1=0)(pg:pur g=false)(h2:E g [r0] σ1 U1.pv σ2)(h3:E 152 [r0,I 0] σ2 t1.pv σ2)(c2:(t1.k:Int)=5)(h4:E 153 [r0,hd1] σ2 (BG 5 es1) σ3):E 115 [.str s,.func g [] []] [] (.tuple [U1.pv,BG 5 es1,I 0]) σ3:=
 Bt R22 [st 4 (Ct h1 (by rfl) (by simp[hhd1.Cc,hhd1.Ae,hhd1.free,hhd1.flat,hhd1.one]) (by simp[hhd1.Cc,hhd1.Ae,hhd1.free,hhd1.flat,hhd1.one]) (by simp[hhd1.Cc,hhd1.Ae,hhd1.free,hhd1.flat,hhd1.one]):Bh pur run (.w (.call 151)) [.str s] [] [some (.tuple [r0,hd1,I z1])] σ1),st 1 (FV (JB 0 (by rfl) (by simp[hhd1.Cc,hhd1.Ae,hhd1.free,hhd1.flat,hhd1.one])):Bh pur run (.p (.ext 0)) [.tuple [r0,hd1,I z1]] σ1 [some r0] σ1),st 0 (FV (JB 1 (by rfl) (by simp[hhd1.Cc,hhd1.Ae,hhd1.free,hhd1.flat,hhd1.one])):Bh pur run (.p (.ext 1)) [.tuple [r0,hd1,I z1]] σ1 [some hd1] σ1),st 0 (FV (JB 2 (by rfl) (by simp[hhd1.Cc,hhd1.Ae,hhd1.free,hhd1.flat,hhd1.one])):Bh pur run (.p (.ext 2)) [.tuple [r0,hd1,I z1]] σ1 [some (I z1)] σ1),sp 1 (Kg hhd1),sp 2 (DF .i64 c1),st 3 (NW h2 pg (by simp[hhd1.Cc,hhd1.Ae,hhd1.free,hhd1.flat,hhd1.one]) (by simp[hhd1.Cc,hhd1.Ae,hhd1.free,hhd1.flat,hhd1.one]) (by simp[hhd1.Cc,hhd1.Ae,hhd1.free,hhd1.flat,hhd1.one]):Bh pur run (.w .calld) [.func g [] [],r0] σ1 [some U1.pv] σ2),sp 1 (BF U1),st 1 (oW h3),sp 4 (DF .i64 c2),sp 1 (rA U1),sp 1 (Kg hhd1),st 0 (Ct h4 (by rfl) (by simp[hhd1.Cc,hhd1.Ae,hhd1.free,hhd1.flat,hhd1.one]) (by simp[hhd1.Cc,hhd1.Ae,hhd1.free,hhd1.flat,hhd1.one]) (by simp[hhd1.Cc,hhd1.Ae,hhd1.free,hhd1.flat,hhd1.one]):Bh pur run (.w (.call 153)) [r0,hd1] σ2 [some (BG 5 es1)] σ3),st 0 (zl σ3 U1),sp 0 (GI 5 es1)] (by simp[Gs,DL]:(Gm [(4,U1.pv),(5,BG 5 es1),(6,I 0)] [(4,some 5),(5,none),(6,none)]).bind DL=some (.tuple [U1.pv,BG 5 es1,I 0]))
theorem R8:Rn 58 a58:=fun _ _ _=>rfl
theorem r8(h1:E 115 [.str s,.func 116 [] []] [] (.tuple [U1.pv,BG 5 es1,I z1]) σ1):E 58 [.str s] [] (.tuple [U1.pv,BG 5 es1,I z1]) []:=
 Bt R8 [st 4 (oC h1),st 0 (FV (JB 0 (by rfl) (by simp)):Bh pur run (.p (.ext 0)) [.tuple [U1.pv,BG 5 es1,I z1]] [] [some U1.pv] []),st 0 (FV (JB 1 (by rfl) (by simp)):Bh pur run (.p (.ext 1)) [.tuple [U1.pv,BG 5 es1,I z1]] [] [some (BG 5 es1)] []),st 0 (FV (JB 2 (by rfl) (by simp)):Bh pur run (.p (.ext 2)) [.tuple [U1.pv,BG 5 es1,I z1]] [] [some (I z1)] []),sp 0 (WI (I 0) (.str []) (I 0) (I 0) .nils U1),sp 0 (GI 5 es1)] (by simp[Gs,DL]:(Gm [(2,U1.pv),(3,BG 5 es1),(4,I z1)] [(2,some 5),(3,none),(4,none)]).bind DL=some (.tuple [U1.pv,BG 5 es1,I z1]))
end Go.Abs.Z

namespace Go.Abs.Z
open Go.Proofs Go.RowKit
mutual

def trP(ls:List Tk):AT→Tr
 |.mk kd tx f k _ ks=>.mk kd tx (match EP ls ks with | []=>if f<k then(tA ls f:Nat) else(en ls k:Nat) | u::_=>min (if f<k then((tA ls f:Nat):Int) else(en ls k:Nat)) u.st) (en ls k:Nat) ks.isEmpty (EP ls ks)
def EP(ls:List Tk):List AT→List Tr
 |[]=>[]
 |x::xs=>trP ls x::EP ls xs
end
theorem R4(ls:List Tk):∀xs:List AT,EP ls xs=xs.map (trP ls)
 |[]=>rfl
 |x::xs=>by rw[EP,R4 ls xs];rfl
theorem K7(ls:List Tk)(xs:List AT)(x:AT):EP ls (xs++[x])=EP ls xs++[trP ls x]:=by simp[R4]
theorem Mj(ls:List Tk)(xs:List AT):(EP ls xs).length=xs.length:=by simp[R4]
abbrev rf:PV:=.ref 0 0
abbrev Z0:PV:=.agg [I 0,.str [],I 0,I 0,.nils]
abbrev sl1(ws:List (List UInt8)):PV:=.slice false 1 (ws.map PV.str)
section
variable{s:List UInt8}{ls:List Tk}{m:Nat}{B:Sto}{k f:Nat}{D:List AD}
theorem nd0(H:CG s ls m)(hf:f≤k)(hk:k≤m)(kd:Nat)(tx:List UInt8)(b:Bool):E 231 [rf,N kd,.str tx,N f,N (en ls f),.nils] (PS4 s ls B k D) (trP ls (.mk kd tx f k b [])).pv (PS4 s ls B k D):=by
 by_cases h:f<k
 ·obtain⟨t,ht⟩:=H.at (k:=f) (by omega)
  have:=AzU (s:=s) (l:=en ls k) (wr:=wrP (B.length+1) D) (bf:=bfP ls D) (T:=B++arS ls D) (kd:=(kd:Int)) (tx:=tx) (la:=en ls f) (k:=k) (by omega) ht
  have e:(trP ls (.mk kd tx f k b [])).pv=.agg [N kd,.str tx,N t.a,N (en ls k),.nils]:=by
   rw[trP];simp only[EP,if_pos h,JY ht];rfl
  rw[e];exact this
 ·have hfk:f=k:=by omega
  subst hfk;have:=AzT (s:=s) (ls:=ls) (l:=en ls f) (wr:=wrP (B.length+1) D) (bf:=bfP ls D) (T:=B++arS ls D) (kd:=(kd:Int)) (tx:=tx) (la:=en ls f) (k:=f) (fi:=f) (by omega)
  have e:(trP ls (.mk kd tx f f b [])).pv=.agg [N kd,.str tx,N (en ls f),N (en ls f),.nils]:=by
   rw[trP];simp only[EP,if_neg h];rfl
  rw[e];exact this
theorem nd1(H:CG s ls m)(hf:f≤k)(hk:k≤m)(kd:Nat)(tx:List UInt8)(b:Bool)(us:List AT)(hu:us≠[]:=by simp):E 231 [rf,N kd,.str tx,N f,N (en ls f),.slice false 5 (Tr.pvs (EP ls us))] (PS4 s ls B k D) (trP ls (.mk kd tx f k b us)).pv (PS4 s ls B k D):=by
 cases us with
 |nil=>exact absurd rfl hu
 |cons u us=>
  have hl:(((EP ls (u::us)).length:Nat):Int) > 0:=by simp[EP]
  have h0:(EP ls (u::us))[0]?=some (trP ls u):=rfl;by_cases h:f<k
  ·obtain⟨t,ht⟩:=H.at (k:=f) (by omega)
   have:=AK6 (s:=s) (l:=en ls k) (wr:=wrP (B.length+1) D) (bf:=bfP ls D) (T:=B++arS ls D) (kd:=(kd:Int)) (tx:=tx) (la:=en ls f) (k:=k) (by omega) ht hl h0
   have e:(trP ls (.mk kd tx f k b (u::us))).pv=.agg [N kd,.str tx,I (min ((t.a:Nat):Int) (trP ls u).st),N (en ls k),.slice false 5 (Tr.pvs (EP ls (u::us)))]:=by
    rw[trP];simp only[EP,if_pos h,JY ht];rfl
   rw[e];exact this
  ·have hfk:f=k:=by omega
   subst hfk;have:=AK5 (s:=s) (ls:=ls) (l:=en ls f) (wr:=wrP (B.length+1) D) (bf:=bfP ls D) (T:=B++arS ls D) (kd:=(kd:Int)) (tx:=tx) (la:=en ls f) (k:=f) (fi:=f) (by omega) hl h0
   have e:(trP ls (.mk kd tx f f b (u::us))).pv=.agg [N kd,.str tx,I (min ((en ls f:Nat):Int) (trP ls u).st),N (en ls f),.slice false 5 (Tr.pvs (EP ls (u::us)))]:=by
    rw[trP];simp only[EP,if_neg h];rfl
   rw[e];exact this
theorem isB(H:CG s ls m)(hk:k≤m)(ws:List (List UInt8)){b:Bool}(hc:ws.contains (wAt s ls k).2=b)(hw:(ws.all spW.contains&&decide (ws.length<1000))=true:=by decide):E 155 [rf,sl1 ws] (PS4 s ls B k D) (.bool b) (PS4 s ls B k D):=by
 simp only[Ai,decide_eq_true_eq] at hw;have:=p50 (B:=B) (D:=D) H hk ws hw.2 hw.1
 rwa [hc] at this
theorem kdT(H:CG s ls m)(hk:k≤m)(j:Nat)(hc:(wAt s ls k).1=j):E 154 [rf,N j] (PS4 s ls B k D) (.bool true) (PS4 s ls B k D):=by
 have:=p49 (B:=B) (D:=D) H hk j
 rwa [decide_eq_true hc] at this
theorem kdF(H:CG s ls m)(hk:k≤m)(j:Nat)(hc:(wAt s ls k).1≠j):E 154 [rf,N j] (PS4 s ls B k D) (.bool false) (PS4 s ls B k D):=by
 have:=p49 (B:=B) (D:=D) H hk j
 rwa [decide_eq_false hc] at this
theorem tu(x:List UInt8)(hl:x.length<1000000):E 270 [.str x] [] (.str (dgt x)) []:=by
 have key:∀(n:Nat) (x:List UInt8),x.length=n→n<1000000→LL a74 0 [(0,some (.str x)),(1,some (.int .u8 48))] [] (.exit 0) [(0,some (.str (x.dropWhile (·==48))))] []:=by
  intro n
  induction n with
  |zero=>
   intro x hx _;have:x=[]:=Aw.1 hx;subst this;exact X0 (by simp)
  |succ n ih=>
   intro x hx hn;cases x with
   |nil=>simp at hx
   |cons c x=>
    by_cases h48:c=48
    ·subst h48;refine UV (c2:=48) (s2:=x) (by simp) rfl (by rfl) ?_ (ih x (by simpa using hx) (by omega))
     have h1:(1:Int)≤((((48:UInt8)::x).length:Nat):Int):=by simp;omega
     simp[Be,PN,h1];simpa using h1
    ·have:(c::x).dropWhile (·==48)=c::x:=by
      have hb:(c==48)=false:=by simpa using h48
      rw[List.dropWhile_cons,hb];rfl
     rw[this];refine XZ (c2:=c) (by simp) rfl ?_
     intro e;apply h48;have:c.toNat=48:=by omega
     exact UInt8.toNat_inj.1 this
 have h155:E 29 [.str x,.str [48]] [] (.str (x.dropWhile (·==48))) []:=by
  by_cases hx:x=[]
  ·subst hx;exact AjF rfl
  ·exact AjE hx (BjD (key x.length x rfl hl))
 unfold dgt;by_cases h1:x.dropWhile (·==48)=[]
 ·by_cases h2:x=[]
  ·simp only[h1,h2,ne_eq,not_true_eq_false,and_false,if_false];rw[h1,h2] at h155;subst h2;exact AjH h155 rfl rfl
  ·simp only[h1,h2,ne_eq,not_false_eq_true,and_true,if_true];exact AjG h155 h1 h2
 ·simp only[h1,false_and,if_false];exact AjI h155 h1
end
section
variable{s:List UInt8}{ls:List Tk}{m:Nat}{B:Sto}{k f:Nat}{D:List AD}{c:NT→Nat→List AD→K4}{r:Rs×Nat×List AD}{p q:Pg}
abbrev G4(s:List UInt8)(ls:List Tk)(m:Nat)(c:NT→Nat→List AD→K4)(r:Rs×Nat×List AD)(p:Pg)(k:Nat)(D:List AD):Prop:=G3 (wAt s ls) m c r p k D
theorem w5(H:CG s ls m):(wAt s ls m).1=5:=by rw[H.end']
theorem q53(H:CG s ls m){e:Nat}{t:List UInt8}(h:G4 s ls m c r (.report e t p) k D):E 158 [rf,N e,.str t] (PS4 s ls B k D) (.tuple []) (PS4 s ls B k (rp D e k t))∧G4 s ls m c r p k (rp D e k t):=
 ⟨p53 H h.le (fun d hd=>Bf (h.ok.2 d hd) h.le) (by have:=h.ok.len;have:=h.le;have:=H.big;omega) e t,h.rep⟩
theorem SH(H:CG s ls m)(h:G4 s ls m c r (.read p) k D):E 235 [rf] (PS4 s ls B k D) (.str (wAt s ls k).2) (PS4 s ls B (k+1) D)∧G4 s ls m c r p (k+1) D:=by
 obtain⟨h1,h2⟩:=h.read (w5 H);exact⟨p76 H h1,h2⟩
theorem qrd(H:CG s ls m){g:List UInt8→Pg}(h:G4 s ls m c r (Pg.rd g) k D):E 235 [rf] (PS4 s ls B k D) (.str (wAt s ls k).2) (PS4 s ls B (k+1) D)∧G4 s ls m c r (g (wAt s ls k).2) (k+1) D:=by
 obtain⟨h1,h2⟩:=h.rd (w5 H);exact⟨p76 H h1,h2⟩
theorem qac(H:CG s ls m)(x:List UInt8)(h:G4 s ls m c r (Pg.ifW [x] (.read p) q) k D)(hx:spW.contains x=true:=by decide):
  (E 258 [rf,.str x] (PS4 s ls B k D) (.bool true) (PS4 s ls B (k+1) D)∧G4 s ls m c r p (k+1) D)∨(E 258 [rf,.str x] (PS4 s ls B k D) (.bool false) (PS4 s ls B k D)∧G4 s ls m c r q k D):=by
 have hw:([x].all spW.contains&&decide ([x].length<1000))=true:=by simp[hx];simpa using hx
 rcases h.ifW with⟨hc,h⟩ | ⟨hc,h⟩
 ·obtain⟨h1,h2⟩:=SH (B:=B) H h;exact .inl ⟨fB (isB H (by have:=h2.le;omega) [x] hc hw) h1,h2⟩
 ·exact .inr ⟨Av0 (isB H h.le [x] hc hw),h⟩
theorem qxp(H:CG s ls m)(x:List UInt8)(h:G4 s ls m c r (Pg.xp x p) k D)(hx:spW.contains x=true:=by decide):
  ∃k1 D1,k≤k1∧E 227 [rf,.str x] (PS4 s ls B k D) (.tuple []) (PS4 s ls B k1 D1)∧G4 s ls m c r p k1 D1:=by
 rcases qac (B:=B) H x h hx with⟨h1,h2⟩ | ⟨h1,h2⟩
 ·exact⟨_,_,by omega,fC h1,h2⟩
 ·obtain⟨h3,h4⟩:=q53 (B:=B) H h2;exact⟨_,_,Ag _,AvU h1 h3,h4⟩
theorem qnm(H:CG s ls m){g:List UInt8→Pg}(h:G4 s ls m c r (Pg.nm g) k D):∃x k1 D1,k≤k1∧E 228 [rf] (PS4 s ls B k D) (.str x) (PS4 s ls B k1 D1)∧G4 s ls m c r (g x) k1 D1:=by
 rcases h.ifK with⟨hc,h⟩ | ⟨hc,h⟩
 ·obtain⟨h1,h2⟩:=qrd (B:=B) H h;exact⟨_,_,_,by omega,AvT (kdT H (by have:=h2.le;omega) 0 hc) h1,h2⟩
 ·obtain⟨h3,h4⟩:=q53 (B:=B) H h;exact⟨_,_,_,Ag _,AvS (kdF H h.le 0 hc) h3,h4⟩
theorem Wy(H:CG s ls m)(k:Nat):(wAt s ls k).2.length<1000000:=by
 have:=H.small;unfold wAt;split
 ·simp[wd];omega
 ·simp
theorem BjU(H:CG s ls m){g:List UInt8→Pg}(h:G4 s ls m c r (Pg.num g) k D):∃x k1 D1,k≤k1∧E 262 [rf] (PS4 s ls B k D) (.str x) (PS4 s ls B k1 D1)∧G4 s ls m c r (g x) k1 D1:=by
 rcases h.ifK with⟨hc,h⟩ | ⟨hc,h⟩
 ·obtain⟨h1,h2⟩:=qrd (B:=B) H h;exact⟨_,_,_,by omega,o9 (kdT H (by have:=h2.le;omega) 2 hc) h1 (tu _ (Wy H k)),h2⟩
 ·obtain⟨h3,h4⟩:=q53 (B:=B) H h;exact⟨_,_,_,Ag _,AkA (kdF H h.le 2 hc) h3,h4⟩
theorem pu(H:CG s ls m){g:AT→Pg}(h:G4 s ls m c r (Pg.nop g) k D):∃x,E 261 [rf] (PS4 s ls B k D) (trP ls x).pv (PS4 s ls B k D)∧G4 s ls m c r (g x) k D:=
 ⟨_,BjO p75 (nd0 H (Ag _) h.le 0 [] false),h.mrk.bd⟩
theorem pz(H:CG s ls m){g:AT→Pg}(h:G4 s ls m c r (Pg.miss g) k D):∃x,E 259 [rf] (PS4 s ls B k D) (trP ls x).pv (PS4 s ls B k D)∧G4 s ls m c r (g x) k D:=
 ⟨_,BjL p75 (nd0 H (Ag _) h.le 1 [] false),h.mrk.bd⟩
theorem qwr(H:CG s ls m){g:AT→Pg}(h:G4 s ls m c r (written g) k D):∃x k1 D1,k≤k1∧E 233 [rf] (PS4 s ls B k D) (trP ls x).pv (PS4 s ls B k1 D1)∧G4 s ls m c r (g x) k1 D1:=by
 rcases qac (B:=B) H [58] h with⟨a1,h⟩ | ⟨a1,h⟩
 ·have hk1:k+1≤m:=h.le;have h:=h.mrk;rcases qac (B:=B) H NF h with⟨a2,h⟩ | ⟨a2,h⟩
  ·rcases qac (B:=B) H [91] h with⟨a3,h⟩ | ⟨a3,h⟩
   ·obtain⟨x,k1,D1,l1,a4,h⟩:=BjU (B:=B) H h;obtain⟨k2,D2,l2,a5,h⟩:=qxp (B:=B) H [93] h;exact⟨_,_,_,by omega,AvM a1 p75 a2 a3 a4 a5 (nd0 H (by omega) h.le 10 x false),h.bd⟩
   ·exact⟨_,_,_,by omega,AvL a1 p75 a2 a3 (nd0 H (by omega) h.le 9 NF false),h.bd⟩
  ·rcases qac (B:=B) H JU h with⟨a3,h⟩ | ⟨a3,h⟩
   ·exact⟨_,_,_,by omega,AvK a1 p75 a2 a3 (nd0 H (by omega) h.le 9 JU false),h.bd⟩
   ·rcases h.ifK with⟨hc,h⟩ | ⟨hc,h⟩
    ·obtain⟨a4,h⟩:=qrd (B:=B) H h;exact⟨_,_,_,by omega,AvJ a1 p75 a2 a3 (kdT H hk1 0 hc) a4 (nd0 H (by omega) h.le 9 _ false),h.bd⟩
    ·obtain⟨a4,h4⟩:=q53 (B:=B) H h;obtain⟨x,a5,h5⟩:=pz (B:=B) H h4;exact⟨_,_,_,by omega,AvI a1 p75 a2 a3 (kdF H hk1 0 hc) a4 a5,h5⟩
 ·obtain⟨x,a2,h⟩:=pu (B:=B) H h;exact⟨_,_,_,Ag _,AvN a1 a2,h⟩
theorem AvW(H:CG s ls m){g:AT→Pg}(h:G4 s ls m c r (Qz g) k D):∃x k1 D1,k≤k1∧E 230 [rf] (PS4 s ls B k D) (trP ls x).pv (PS4 s ls B k1 D1)∧G4 s ls m c r (g x) k1 D1:=by
 obtain⟨x,k1,D1,l1,a1,h⟩:=qnm (B:=B) H h.mrk;obtain⟨k2,D2,l2,a2,h⟩:=qxp (B:=B) H [58] h;have hk2:=h.le;rcases h.ifW with⟨hc,h⟩ | ⟨hc,h⟩
 ·obtain⟨a3,h⟩:=qrd (B:=B) H h.mrk;exact⟨_,_,_,by omega,AvR p75 a1 a2 (isB H hk2 [NF,JU] hc) p75 a3 (nd0 H (by omega) h.le 9 _ false) (nd1 H (by omega) h.le 4 x false [_]),h.bd.bd⟩
 ·obtain⟨a3,h⟩:=q53 (B:=B) H h;obtain⟨y,a4,h⟩:=pz (B:=B) H h;exact⟨_,_,_,by omega,AvQ p75 a1 a2 (isB H hk2 [NF,JU] hc) a3 a4 (nd1 H (by omega) h.le 4 x false [_]),h.bd⟩
theorem AvV(H:CG s ls m){g:AT→Pg}(h:G4 s ls m c r (Qo g) k D):∃x k1 D1,k≤k1∧E 260 [rf] (PS4 s ls B k D) (trP ls x).pv (PS4 s ls B k1 D1)∧G4 s ls m c r (g x) k1 D1:=by
 rcases qac (B:=B) H Og h.mrk with⟨a1,h⟩ | ⟨a1,h⟩
 ·obtain⟨x,k1,D1,l1,a2,h⟩:=qnm (B:=B) H h;obtain⟨t,k2,D2,l2,a3,h⟩:=qwr (B:=B) H h;exact⟨_,_,_,by omega,AkC p75 a1 a2 a3 (nd1 H (by omega) h.le 8 x false [_]),h.bd⟩
 ·obtain⟨x,k1,D1,l1,a2,h⟩:=qnm (B:=B) H h;obtain⟨t,k2,D2,l2,a3,h⟩:=qwr (B:=B) H h;exact⟨_,_,_,by omega,AkB p75 a1 a2 a3 (nd1 H (by omega) h.le 7 x false [_]),h.bd⟩
theorem AWA(H:CG s ls m){g:AT→Pg}(h:G4 s ls m c r (Ja g) k D):∃x k1 D1,k≤k1∧E 293 [rf] (PS4 s ls B k D) (trP ls x).pv (PS4 s ls B k1 D1)∧G4 s ls m c r (g x) k1 D1:=by
 obtain⟨x,k1,D1,l1,a1,h⟩:=qnm (B:=B) H h.mrk;exact⟨_,_,_,by omega,BjJ p75 a1 (nd0 H (by omega) h.le 20 x false),h.bd⟩
end
end Go.Abs.Z

namespace Go.Abs.Z
open Go.Proofs Go.RowKit
def exF:Nat→FuncId
 |1=>273
 |2=>283
 |3=>292
 |5=>294
 |6=>295
 |_=>296
def elF:El→FuncId
 |.fd=>230
 |.pa=>260
 |.ex=>273
abbrev fnv(g:FuncId):PV:=.func g [rf] []
def Bz4(s:List UInt8)(ls:List Tk)(B:Sto)(q:Nat):Prop:=∀k D,Fq (.ld 1 false) [.ref q 0] (PS4 s ls B k D)=some [some (.ref 0 0)]
def IM:Nat:=2000000000
def EP4(s:List UInt8)(ls:List Tk)(B:Sto)(n:Nat):NT→Nat→List AD→Rs→Nat→List AD→Prop
 |.ex L,k,D,v,k1,D1=>(L=1∨L=2∨L=3∨L=5∨L=6∨L=7)→E (exF L) [rf] (PS4 s ls B k D) (trP ls v.1).pv (PS4 s ls B k1 D1)
 |.lp L f x,k,D,v,k1,D1=>(L=1∨L=2∨L=5∨L=6)→f≤k→
   LL iw 0 [(0,some rf),(1,some (fnv (exF (L+1)))),(2,some (sl1 (opL L))),(6,some Z0),(7,some (N f)),(8,some (N (en ls f))),(9,some (trP ls x).pv)] (PS4 s ls B k D) (.exit 0)
    [(0,some rf),(1,some (fnv (exF (L+1)))),(6,some Z0),(9,some (trP ls v.1).pv)] (PS4 s ls B k1 D1)
 |.tl e acc,k,D,v,k1,D1=>acc≠[]→acc.length+n≤IM→v.2≠[]∧
   LL a229 0 [(0,some rf),(1,some (fnv (elF e))),(5,some (.slice true 5 (Tr.pvs (EP ls acc))))] (PS4 s ls B k D) (.exit 0)
    [(1,some (fnv (elF e))),(5,some (.slice true 5 (Tr.pvs (EP ls v.2))))] (PS4 s ls B k1 D1)
 |.bk,k,D,v,k1,D1=>E 234 [rf] (PS4 s ls B k D) (trP ls v.1).pv (PS4 s ls B k1 D1)
 |.sts acc,k,D,v,k1,D1=>acc.length+n≤IM→∀a b:Nat,
   LL a234 0 [(0,some rf),(2,some Z0),(3,some (N a)),(4,some (N b)),(5,some (Bw 5 (Tr.pvs (EP ls acc))))] (PS4 s ls B k D) (.exit 0)
    [(0,some rf),(2,some Z0),(3,some (N a)),(4,some (N b)),(5,some (Bw 5 (Tr.pvs (EP ls v.2))))] (PS4 s ls B k1 D1)
 |.st,k,D,v,k1,D1=>E 263 [rf] (PS4 s ls B k D) (trP ls v.1).pv (PS4 s ls B k1 D1)
 |.br,k,D,v,k1,D1=>[wIf].contains (wAt s ls k).2=true→E 272 [rf] (PS4 s ls B k D) (trP ls v.1).pv (PS4 s ls B k1 D1)
 |.sk f,k,D,_,k1,D1=>∀b:Nat,
   LL Ru 0 [(0,some rf),(2,some Z0),(7,some (N f)),(8,some (N b))] (PS4 s ls B k D) (.exit 1) [(0,some rf),(2,some Z0),(7,some (N f)),(8,some (N b))] (PS4 s ls B k1 D1)
 |.sp,k,D,_,k1,D1=>∀f b q:Nat,f<k→Bz4 s ls B q→
   LL a159 0 [(0,some rf),(1,some (.func 160 [] [.ref q 0])),(4,some Z0),(5,some (N f)),(6,some (N b))] (PS4 s ls B k D) (.exit 0) [(0,some rf),(4,some Z0),(5,some (N f)),(6,some (N b))] (PS4 s ls B k1 D1)
 |.pg acc,k,D,v,k1,D1=>acc.length+n≤IM→∀T:Sto,Bz4 s ls B (T.length+1)→
   LL a116 0 [(1,some (.ref (T.length+1) 0)),(2,some Z0),(3,some (.agg [I 2,.str [],I 0,N s.length,Bw 5 (Tr.pvs (EP ls acc))]))] (PS4 s ls B k D) (.exit 0)
    [(1,some (.ref (T.length+1) 0)),(2,some Z0),(3,some (.agg [I 2,.str [],I 0,N s.length,Bw 5 (Tr.pvs (EP ls v.2))]))] (PS4 s ls B k1 D1)
section
variable{s:List UInt8}{ls:List Tk}{m n:Nat}{B:Sto}{k f:Nat}{D:List AD}{c:NT→Nat→List AD→K4}{r:Rs×Nat×List AD}{p q:Pg}
def OkE(s:List UInt8)(ls:List Tk)(m:Nat)(B:Sto)(n:Nat)(c:NT→Nat→List AD→K4):Prop:=
 OkI m c∧∀x k D v k1 D1,c x k D=some (v,k1,D1)→k≤m→Dok k D→EP4 s ls B n x k D v k1 D1
theorem qex(H:CG s ls m)(hc:OkE s ls m B n c)(L:Nat)(hL:L=1∨L=2∨L=3∨L=5∨L=6∨L=7){g:AT→Pg}(h:G4 s ls m c r (Pg.cl (.ex L) g) k D):
  ∃x k1 D1,k≤k1∧E (exF L) [rf] (PS4 s ls B k D) (trP ls x).pv (PS4 s ls B k1 D1)∧G4 s ls m c r (g x) k1 D1:=by
 obtain⟨v,k1,D1,h1,h2,h3⟩:=h.cl hc.1;exact⟨v.1,k1,D1,h2,hc.2 _ _ _ _ _ _ h1 h.le h.ok hL,h3⟩
theorem qe1(H:CG s ls m)(hc:OkE s ls m B n c){g:AT→Pg}(h:G4 s ls m c r (Pg.cl (.ex 1) g) k D):
  ∃x k1 D1,k≤k1∧E 273 [rf] (PS4 s ls B k D) (trP ls x).pv (PS4 s ls B k1 D1)∧G4 s ls m c r (g x) k1 D1:=qex H hc 1 (by simp) h
theorem qbk(H:CG s ls m)(hc:OkE s ls m B n c){g:AT→Pg}(h:G4 s ls m c r (Pg.cl .bk g) k D):
  ∃x k1 D1,k≤k1∧E 234 [rf] (PS4 s ls B k D) (trP ls x).pv (PS4 s ls B k1 D1)∧G4 s ls m c r (g x) k1 D1:=by
 obtain⟨v,k1,D1,h1,h2,h3⟩:=h.cl hc.1;exact⟨v.1,k1,D1,h2,hc.2 _ _ _ _ _ _ h1 h.le h.ok,h3⟩
theorem zb(H:CG s ls m)(hc:OkE s ls m B n c)(e:El){g:AT→Pg}(h:G4 s ls m c r (Wn e g) k D):
  ∃x k1 D1,k≤k1∧E (elF e) [rf] (PS4 s ls B k D) (trP ls x).pv (PS4 s ls B k1 D1)∧G4 s ls m c r (g x) k1 D1:=by
 cases e with
 |fd=>exact AvW H h
 |pa=>exact AvV H h
 |ex=>exact qe1 H hc h
theorem pI(e:El):pur (elF e)=false:=by cases e<;>rfl
theorem jg(H:CG s ls m)(hc:OkE s ls m B n c)(hn:n+1≤IM)(e:El){g:List AT→Pg}(h:G4 s ls m c r (Pp e g) k D):
  ∃l k1 D1,k≤k1∧l≠[]∧E 229 [rf,fnv (elF e)] (PS4 s ls B k D) (.slice false 5 (Tr.pvs (EP ls l))) (PS4 s ls B k1 D1)∧G4 s ls m c r (g l) k1 D1:=by
 obtain⟨x,k1,D1,l1,a1,h⟩:=zb H hc e h;obtain⟨v,k2,D2,h1,h2,h3⟩:=h.call hc.1;obtain⟨b1,b2⟩:=hc.2 _ _ _ _ _ _ h1 h.le h.ok (by simp) (by simp;omega)
 exact⟨v.2,k2,D2,by omega,b1,BjR (pI e) a1 b2,h3⟩
theorem ze(H:CG s ls m)(hc:OkE s ls m B n c)(hn:n+1≤IM){g:List AT→Pg}(hw:(wAt s ls k).2=[40])(h:G4 s ls m c r (Uy g) k D):
  ∃l k1 D1,k≤k1∧((l=[]∧E 286 [rf] (PS4 s ls B k D) .nils (PS4 s ls B k1 D1))∨(l≠[]∧E 286 [rf] (PS4 s ls B k D) (.slice false 5 (Tr.pvs (EP ls l))) (PS4 s ls B k1 D1)))∧G4 s ls m c r (g l) k1 D1:=by
 have hk:=h.le;obtain⟨a1,h⟩:=SH (B:=B) H h;have a2:E 227 [rf,.str [40]] (PS4 s ls B k D) (.tuple []) (PS4 s ls B (k+1) D):=fC (fB (isB H hk [[40]] (by rw[hw];rfl)) a1)
 have hk1:=h.le;rcases h.ifW with⟨hb,h⟩ | ⟨hb,h⟩
 ·obtain⟨k2,D2,l2,a3,h⟩:=qxp (B:=B) H [41] h;exact⟨[],k2,D2,by omega,.inl ⟨rfl,AkU a2 (isB H hk1 [[41]] hb) a3⟩,h⟩
 ·obtain⟨l,k2,D2,l2,hl,a3,h⟩:=jg H hc hn .ex h;obtain⟨k3,D3,l3,a4,h⟩:=qxp (B:=B) H [41] h;exact⟨l,k3,D3,by omega,.inr ⟨hl,AkT a2 (isB H hk1 [[41]] hb) a3 a4⟩,h⟩
theorem pq(H:CG s ls m)(hc:OkE s ls m B n c){g:AT→Pg}(h:G4 s ls m c r (Ow g) k D):
  ∃x k1 D1,k≤k1∧E 287 [rf] (PS4 s ls B k D) (trP ls x).pv (PS4 s ls B k1 D1)∧G4 s ls m c r (g x) k1 D1:=by
 obtain⟨v,k1,D1,l1,a1,h⟩:=AWA (B:=B) H h.mrk;rcases qac (B:=B) H [91] h with⟨a2,h⟩ | ⟨a2,h⟩
 ·obtain⟨y,k2,D2,l2,a3,h⟩:=qe1 H hc h;obtain⟨k3,D3,l3,a4,h⟩:=qxp (B:=B) H [93] h;exact⟨_,_,_,by omega,AkS p75 a1 a2 a3 a4 (nd1 H (by omega) h.le 21 [] false [_,_]),h.bd⟩
 ·rcases qac (B:=B) H [46] h with⟨a3,h⟩ | ⟨a3,h⟩
  ·obtain⟨x,k2,D2,l2,a4,h⟩:=qnm (B:=B) H h;exact⟨_,_,_,by omega,AkR p75 a1 a2 a3 a4 (nd1 H (by omega) h.le 22 x false [_]),h.bd⟩
  ·exact⟨_,_,_,by omega,AkQ p75 a1 a2 a3,h⟩
theorem exT(H:CG s ls m)(hk:k<m)(x:List UInt8)(hb:[x].contains (wAt s ls k).2=true)(hx:spW.contains x=true:=by decide):E 227 [rf,.str x] (PS4 s ls B k D) (.tuple []) (PS4 s ls B (k+1) D):=
 fC (fB (isB H (Dz hk) [x] hb (by simp[hx];simpa using hx)) (p76 H hk))
theorem xw(H:CG s ls m)(hc:OkE s ls m B n c)(hn:n+1≤IM){g:AT→Pg}(hb:[K6].contains (wAt s ls k).2=true)(h:G4 s ls m c r (O5 g) k D):
  ∃x k1 D1,k≤k1∧E 156 [rf] (PS4 s ls B k D) (trP ls x).pv (PS4 s ls B k1 D1)∧G4 s ls m c r (g x) k1 D1:=by
 have h:=(h.mrk.read (w5 H)).2;have a1:=exT (B:=B) (D:=D) (k:=k) H (by have:=h.le;omega) K6 hb
 obtain⟨x,k1,D1,l1,a2,h⟩:=qnm (B:=B) H h;obtain⟨k2,D2,l2,a3,h⟩:=qxp (B:=B) H [123] h;obtain⟨l,k3,D3,l3,hl,a4,h⟩:=jg H hc hn .fd h;obtain⟨k4,D4,l4,a5,h⟩:=qxp (B:=B) H [125] h;exact⟨_,_,_,by omega,r51 p75 a1 a2 a3 a4 a5 (nd1 H (by omega) h.le 3 x false l hl),h.bd⟩
theorem xx(H:CG s ls m)(hc:OkE s ls m B n c)(hn:n+1≤IM){g:AT→Pg}(h:G4 s ls m c r (Pb g) k D):
  ∃x k1 D1,k≤k1∧E 232 [rf] (PS4 s ls B k D) (trP ls x).pv (PS4 s ls B k1 D1)∧G4 s ls m c r (g x) k1 D1:=by
 obtain⟨k1,D1,l1,a1,h⟩:=qxp (B:=B) H [40] h.mrk;have hk1:=h.le;rcases h.ifW with⟨hb,h⟩ | ⟨hb,h⟩
 ·obtain⟨k2,D2,l2,a2,h⟩:=qxp (B:=B) H [41] h;exact⟨_,_,_,by omega,AvP p75 a1 (isB H hk1 [[41]] hb) a2 (nd0 H (by omega) h.le 6 [] true),h.bd⟩
 ·obtain⟨l,k2,D2,l2,hl,a2,h⟩:=jg H hc hn .pa h;obtain⟨k3,D3,l3,a3,h⟩:=qxp (B:=B) H [41] h;exact⟨_,_,_,by omega,AvO p75 a1 (isB H hk1 [[41]] hb) a2 a3 (nd1 H (by omega) h.le 6 [] true l hl),h.bd⟩
theorem AWB(H:CG s ls m)(hc:OkE s ls m B n c)(hn:n+1≤IM){g:AT→Pg}(hb:[Iz].contains (wAt s ls k).2=true)(h:G4 s ls m c r (aZ g) k D):
  ∃x k1 D1,k≤k1∧E 157 [rf] (PS4 s ls B k D) (trP ls x).pv (PS4 s ls B k1 D1)∧G4 s ls m c r (g x) k1 D1:=by
 have h:=(h.mrk.read (w5 H)).2;have a1:=exT (B:=B) (D:=D) (k:=k) H (by have:=h.le;omega) Iz hb
 obtain⟨x,k1,D1,l1,a2,h⟩:=qnm (B:=B) H h;obtain⟨a,k2,D2,l2,a3,h⟩:=xx H hc hn h;obtain⟨t,k3,D3,l3,a4,h⟩:=qwr (B:=B) H h;obtain⟨b,k4,D4,l4,a5,h⟩:=qbk H hc h;exact⟨_,_,_,by omega,r52 p75 a1 a2 a3 a4 a5 (nd1 H (by omega) h.le 5 x false [_,_,_]),h.bd⟩
theorem Ql(H:CG s ls m)(hf:f≤k){kd:Nat}{tx:List UInt8}(h:G4 s ls m c r (Pg.nod kd tx f []) k D):∃x,r=((x,[]),k,D)∧E 231 [rf,N kd,.str tx,N f,N (en ls f),.nils] (PS4 s ls B k D) (trP ls x).pv (PS4 s ls B k D):=
 ⟨_,h.bd.ret,nd0 H hf h.le kd tx true⟩
theorem GA(H:CG s ls m)(hf:f≤k){kd:Nat}{tx:List UInt8}{us:List AT}(hu:us≠[])(h:G4 s ls m c r (Pg.nod kd tx f us) k D):
  ∃x,r=((x,[]),k,D)∧E 231 [rf,N kd,.str tx,N f,N (en ls f),.slice false 5 (Tr.pvs (EP ls us))] (PS4 s ls B k D) (trP ls x).pv (PS4 s ls B k D):=
 ⟨_,h.bd.ret,nd1 H hf h.le kd tx true us hu⟩
theorem BjV(H:CG s ls m)(hc:OkE s ls m B n c)(hb:E 258 [rf,.str Oh] (PS4 s ls B k D) (.bool false) (PS4 s ls B k D))(h:G4 s ls m c r q9 k D):E 292 [rf] (PS4 s ls B k D) (trP ls r.1.1).pv (PS4 s ls B r.2.1 r.2.2):=by
 obtain⟨x,k1,D1,l1,a1,h⟩:=qex H hc 5 (by simp) h.mrk
 have hk1:=h.le;rcases h.ifW with⟨hw,h⟩ | ⟨hw,h⟩
 ·obtain⟨a2,h⟩:=qrd (B:=B) H h;obtain⟨y,k2,D2,l2,a3,h⟩:=qex H hc 5 (by simp) h
  obtain⟨x9,e9,n9⟩:=GA H (by omega) (by simp) h
  rw[e9];exact Av2 p75 hb a1 (isB H hk1 (opL 4) hw) a2 a3 n9
 ·have e:=h.ret;rw[e];exact Av1 p75 hb a1 (isB H hk1 (opL 4) hw)
theorem uG(H:CG s ls m)(hk:k<m){b:Bool}(hw:((wAt s ls (k+1)).2==[40])=b):E 285 [rf,.str [40]] (PS4 s ls B k D) (.bool b) (PS4 s ls B k D):=by
 obtain⟨t,ht⟩:=H.at (k:=k+1) (by omega)
 have h47:=p47 (B:=B) (D:=D) H (Dz hk) (j:=1) (by omega) (t:=t) (by rw[show min (k+1) m=k+1 by omega];exact ht)
 have h102:=AWH (k:=k) (B:=B) (D:=D) H ht;rw[Jw ht] at hw;by_cases h3:t.k=3
 ·have:=AkW (w:=[40]) h47 (by omega) h102
  rwa [show(wd s t==[40])=b from hw] at this
 ·have hne:wd s t≠[40]:=fun e=>h3 (H.par _ t ht e)
  have:b=false:=by rw[←hw];simpa using hne
  rw[this];exact AkV h47 (by omega)
theorem AWC(H:CG s ls m)(hc:OkE s ls m B n c)(hn:n+1≤IM)(h:G4 s ls m c r bi k D):E 297 [rf] (PS4 s ls B k D) (trP ls r.1.1).pv (PS4 s ls B r.2.1 r.2.2):=by
 have hk:=h.le;rcases h.mrk.ifK with⟨k2,h⟩ | ⟨k2,h⟩
 ·obtain⟨a1,h⟩:=qrd (B:=B) H h;obtain⟨x9,e9,n9⟩:=Ql H (by omega) h
  rw[e9];exact AjB p75 (kdT H hk 2 k2) (o9 (kdT H hk 2 k2) a1 (tu _ (Wy H k))) n9
 have a2:=kdF (B:=B) (D:=D) H hk 2 k2;rcases h.ifW with⟨hb,h⟩ | ⟨hb,h⟩
 ·obtain⟨a1,h⟩:=qrd (B:=B) H h;obtain⟨x9,e9,n9⟩:=Ql H (by omega) h
  rw[e9];exact AjA p75 a2 (isB H hk [Iy,GQ] hb) a1 n9
 have a3:=isB (B:=B) (D:=D) H hk [Iy,GQ] hb;have h:=h.look;by_cases hk0:(wAt s ls k).1=0
 ·have hlt:=H.lt hk (by omega)
  have a4:=kdT (B:=B) (D:=D) H hk 0 hk0;by_cases hp:(wAt s ls (k+1)).2=[40]
  ·rw[if_pos ⟨hk0,hp⟩] at h;have a5:=uG (B:=B) (D:=D) H hlt (b:=true) (by rw[hp];rfl)
   obtain⟨a6,h⟩:=qrd (B:=B) H h;obtain⟨l,k3,D3,l3,a7,h⟩:=ze H hc hn hp h;rcases a7 with⟨rfl,a7⟩ | ⟨hl,a7⟩
   ·obtain⟨x9,e9,n9⟩:=Ql H (by omega) h
    rw[e9];exact Aj7 p75 a2 a3 a4 a5 a6 a7 n9
   ·obtain⟨x9,e9,n9⟩:=GA H (by omega) hl h
    rw[e9];exact Aj6 p75 a2 a3 a4 a5 a6 a7 n9
  ·rw[if_neg (fun x=>hp x.2),if_pos hk0] at h
   have a5:=uG (B:=B) (D:=D) H hlt (b:=false) (by simpa using hp)
   obtain⟨x,k3,D3,l3,a6,h⟩:=pq H hc h;have e:=h.ret;rw[e];exact Aj9 p75 a2 a3 a4 a5 a6
 ·rw[if_neg (fun x=>hk0 x.1),if_neg hk0] at h
  have a4:=kdF (B:=B) (D:=D) H hk 0 hk0;rcases qac (B:=B) H [91] h with⟨a5,h⟩ | ⟨a5,h⟩
  ·obtain⟨l,k3,D3,l3,hl,a6,h⟩:=jg H hc hn .ex h;obtain⟨k4,D4,l4,a7,h⟩:=qxp (B:=B) H [93] h;obtain⟨x9,e9,n9⟩:=GA H (by omega) hl h
   rw[e9];exact Aj8 p75 a2 a3 a4 a5 a6 a7 n9
  ·rcases qac (B:=B) H Oi h with⟨a6,h⟩ | ⟨a6,h⟩
   ·obtain⟨k3,D3,l3,a7,h⟩:=qxp (B:=B) H [40] h;obtain⟨v,k4,D4,l4,a8,h⟩:=AWA (B:=B) H h;obtain⟨k5,D5,l5,a9,h⟩:=qxp (B:=B) H [41] h;obtain⟨x9,e9,n9⟩:=GA H (by omega) (by simp) h
    rw[e9];exact Aj5 p75 a2 a3 a4 a5 a6 a7 a8 a9 n9
   ·rcases qac (B:=B) H [40] h with⟨a7,h⟩ | ⟨a7,h⟩
    ·obtain⟨x,k3,D3,l3,a8,h⟩:=qe1 H hc h;obtain⟨k4,D4,l4,a9,h⟩:=qxp (B:=B) H [41] h;have e:=h.ret;rw[e];exact Aj4 p75 a2 a3 a4 a5 a6 a7 a8 a9
    ·obtain⟨a8,h⟩:=q53 (B:=B) H h;obtain⟨x,a9,h⟩:=pz (B:=B) H h;have e:=h.ret;rw[e];exact Aj3 p75 a2 a3 a4 a5 a6 a7 a8 a9
end
end Go.Abs.Z
