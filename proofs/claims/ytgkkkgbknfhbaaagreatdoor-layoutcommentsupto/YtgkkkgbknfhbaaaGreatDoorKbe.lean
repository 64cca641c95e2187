/- A part of the proof: VO VP VQ VR VS VT ZE WZ Y6 ZF ZH VU VV VW HI VCA VCB VCC VCD. -/
import Derived.Test.YtgkkkgbknfhbaaaGreatDoorKbd
import Derived.Test.YtgkkkgbknfhbaaaGreatDoorKbc
import Derived.Test.YtgkkkgbknfhbaaaGreatDoorKay

set_option linter.all false
namespace Go.Abs.Z
noncomputable section
open Go.Proofs Go.RowKit
def UN{x y:List UInt8}(h:x≠y):AQ (.bin .neq 0) [.str x,.str y]=some [some (.bool true)]:=by
 show some [some (PV.bool (!(x==y)))]=_;rw[beq_eq_false_iff_ne.2 h];rfl
def Nu{x y:List UInt8}(h:x=y):AQ (.bin .neq 0) [.str x,.str y]=some [some (.bool false)]:=by
 subst h;show some [some (PV.bool (!(x==x)))]=_;rw[beq_self_eq_true];rfl
def RV93:Rn 93 a93:=rn
def Qb:Rn 48 a48:=rn
def yS:Rn 52 a52:=rn
section
variable{s p q s2 t M G x0 s6 A aa ad ab ae:List UInt8}{T U K:Tr}{ts F:List Tk}{w l r:Bool}{at_ en:Int}{j:Nat}{Y:Tk}{e:CE}{D:FF}{σ1:Sto}{X:List (List UInt8)}
section
variable(O:(j:Int) < (ts.length:Int))(H:ts[j]?=some Y)(c2:BM (.ssl true true) [.str s,N Y.a,N Y.e] (.str s2))
include O H c2
def bF:List Stp:=[sp 0 (AZ .i64 O),sp 1 (Cs (o:=false) (s:=4) j H),sp 9 c2]
section
variable(V:(Y.e:Int)<=at_)
include V
section
variable(h4:s2=([]:List UInt8))
include h4
def sj:List Stp:=bF O H c2++[sp 4 (KW .i64 V),sq 2 (Nu h4)]
theorem n93a(b:(Y.a:Int)>=en)(c:q=([]:List UInt8))(d:j<1000000000)(a:LL a93 0 [(1,some (I at_)),(2,some (I en)),(3,some (.vptr (srV s T ts w))),(6,some (.str p)),(7,some (.str s2)),(8,some (.bool l)),(9,some (.bool ((Y.a:Int)==en))),(14,some (slF 4 (ts.map Tk.pv))),(15,some (N ts.length)),(16,some (N (j+1)))] [] e D σ1):LL a93 0 [(1,some (I at_)),(2,some (I en)),(3,some (.vptr (srV s T ts w))),(6,some (.str p)),(7,some (.str q)),(8,some (.bool l)),(9,some (.bool r)),(14,some (slF 4 (ts.map Tk.pv))),(15,some (N ts.length)),(16,some (N j))] [] e D σ1:=
 BC [1,2,3,6,7,8,9,14,15,16] (sj O H c2 V h4++[sp 5 (Gi .i64 b),sq 2 (H7 c),sp 9 (AO j 1 am)]) a
theorem n93b(b:(Y.a:Int)>=en)(c:q≠([]:List UInt8))(d:j<1000000000)(a:LL a93 0 [(1,some (I at_)),(2,some (I en)),(3,some (.vptr (srV s T ts w))),(6,some (.str p)),(7,some (.str q)),(8,some (.bool l)),(9,some (.bool r)),(14,some (slF 4 (ts.map Tk.pv))),(15,some (N ts.length)),(16,some (N (j+1)))] [] e D σ1):LL a93 0 [(1,some (I at_)),(2,some (I en)),(3,some (.vptr (srV s T ts w))),(6,some (.str p)),(7,some (.str q)),(8,some (.bool l)),(9,some (.bool r)),(14,some (slF 4 (ts.map Tk.pv))),(15,some (N ts.length)),(16,some (N j))] [] e D σ1:=
 BC [1,2,3,6,7,8,9,14,15,16] (sj O H c2 V h4++[sp 5 (Gi .i64 b),sq 2 (Ha c),sp 2 (AO j 1 am)]) a
theorem n93c(b:¬(Y.a:Int)>=en)(c:j<1000000000)(a:LL a93 0 [(1,some (I at_)),(2,some (I en)),(3,some (.vptr (srV s T ts w))),(6,some (.str p)),(7,some (.str q)),(8,some (.bool l)),(9,some (.bool r)),(14,some (slF 4 (ts.map Tk.pv))),(15,some (N ts.length)),(16,some (N (j+1)))] [] e D σ1):LL a93 0 [(1,some (I at_)),(2,some (I en)),(3,some (.vptr (srV s T ts w))),(6,some (.str p)),(7,some (.str q)),(8,some (.bool l)),(9,some (.bool r)),(14,some (slF 4 (ts.map Tk.pv))),(15,some (N ts.length)),(16,some (N j))] [] e D σ1:=
 BC [1,2,3,6,7,8,9,14,15,16] (sj O H c2 V h4++[sp 5 (Im .i64 b),sp 5 (AO j 1 am)]) a
end
section
variable(h4:s2≠([]:List UInt8))
include h4
def si:List Stp:=bF O H c2++[sp 4 (KW .i64 V),sq 2 (UN h4)]
theorem n93d(b:(Y.a:Int)>=en)(c:q=([]:List UInt8))(d:j<1000000000)(a:LL a93 0 [(1,some (I at_)),(2,some (I en)),(3,some (.vptr (srV s T ts w))),(6,some (.str s2)),(7,some (.str s2)),(8,some (.bool ((Y.e:Int)==at_))),(9,some (.bool ((Y.a:Int)==en))),(14,some (slF 4 (ts.map Tk.pv))),(15,some (N ts.length)),(16,some (N (j+1)))] [] e D σ1):LL a93 0 [(1,some (I at_)),(2,some (I en)),(3,some (.vptr (srV s T ts w))),(6,some (.str p)),(7,some (.str q)),(8,some (.bool l)),(9,some (.bool r)),(14,some (slF 4 (ts.map Tk.pv))),(15,some (N ts.length)),(16,some (N j))] [] e D σ1:=
 BC [1,2,3,6,7,8,9,14,15,16] (si O H c2 V h4++[sp 12 (Gi .i64 b),sq 2 (H7 c),sp 9 (AO j 1 am)]) a
theorem n93e(b:(Y.a:Int)>=en)(c:q≠([]:List UInt8))(d:j<1000000000)(a:LL a93 0 [(1,some (I at_)),(2,some (I en)),(3,some (.vptr (srV s T ts w))),(6,some (.str s2)),(7,some (.str q)),(8,some (.bool ((Y.e:Int)==at_))),(9,some (.bool r)),(14,some (slF 4 (ts.map Tk.pv))),(15,some (N ts.length)),(16,some (N (j+1)))] [] e D σ1):LL a93 0 [(1,some (I at_)),(2,some (I en)),(3,some (.vptr (srV s T ts w))),(6,some (.str p)),(7,some (.str q)),(8,some (.bool l)),(9,some (.bool r)),(14,some (slF 4 (ts.map Tk.pv))),(15,some (N ts.length)),(16,some (N j))] [] e D σ1:=
 BC [1,2,3,6,7,8,9,14,15,16] (si O H c2 V h4++[sp 12 (Gi .i64 b),sq 2 (Ha c),sp 2 (AO j 1 am)]) a
theorem n93f(b:¬(Y.a:Int)>=en)(c:j<1000000000)(a:LL a93 0 [(1,some (I at_)),(2,some (I en)),(3,some (.vptr (srV s T ts w))),(6,some (.str s2)),(7,some (.str q)),(8,some (.bool ((Y.e:Int)==at_))),(9,some (.bool r)),(14,some (slF 4 (ts.map Tk.pv))),(15,some (N ts.length)),(16,some (N (j+1)))] [] e D σ1):LL a93 0 [(1,some (I at_)),(2,some (I en)),(3,some (.vptr (srV s T ts w))),(6,some (.str p)),(7,some (.str q)),(8,some (.bool l)),(9,some (.bool r)),(14,some (slF 4 (ts.map Tk.pv))),(15,some (N ts.length)),(16,some (N j))] [] e D σ1:=
 BC [1,2,3,6,7,8,9,14,15,16] (si O H c2 V h4++[sp 12 (Im .i64 b),sp 5 (AO j 1 am)]) a
end
end
section
variable(V:¬(Y.e:Int)<=at_)
include V
theorem n93g(c:(Y.a:Int)>=en)(b:q=([]:List UInt8))(d:j<1000000000)(a:LL a93 0 [(1,some (I at_)),(2,some (I en)),(3,some (.vptr (srV s T ts w))),(6,some (.str p)),(7,some (.str s2)),(8,some (.bool l)),(9,some (.bool ((Y.a:Int)==en))),(14,some (slF 4 (ts.map Tk.pv))),(15,some (N ts.length)),(16,some (N (j+1)))] [] e D σ1):LL a93 0 [(1,some (I at_)),(2,some (I en)),(3,some (.vptr (srV s T ts w))),(6,some (.str p)),(7,some (.str q)),(8,some (.bool l)),(9,some (.bool r)),(14,some (slF 4 (ts.map Tk.pv))),(15,some (N ts.length)),(16,some (N j))] [] e D σ1:=
 BC [1,2,3,6,7,8,9,14,15,16] (bF O H c2++[sp 4 (LC .i64 V),sp 8 (Gi .i64 c),sq 2 (H7 b),sp 9 (AO j 1 am)]) a
theorem n93h(c:(Y.a:Int)>=en)(b:q≠([]:List UInt8))(d:j<1000000000)(a:LL a93 0 [(1,some (I at_)),(2,some (I en)),(3,some (.vptr (srV s T ts w))),(6,some (.str p)),(7,some (.str q)),(8,some (.bool l)),(9,some (.bool r)),(14,some (slF 4 (ts.map Tk.pv))),(15,some (N ts.length)),(16,some (N (j+1)))] [] e D σ1):LL a93 0 [(1,some (I at_)),(2,some (I en)),(3,some (.vptr (srV s T ts w))),(6,some (.str p)),(7,some (.str q)),(8,some (.bool l)),(9,some (.bool r)),(14,some (slF 4 (ts.map Tk.pv))),(15,some (N ts.length)),(16,some (N j))] [] e D σ1:=
 BC [1,2,3,6,7,8,9,14,15,16] (bF O H c2++[sp 4 (LC .i64 V),sp 8 (Gi .i64 c),sq 2 (Ha b),sp 2 (AO j 1 am)]) a
theorem n93i(b:¬(Y.a:Int)>=en)(c:j<1000000000)(a:LL a93 0 [(1,some (I at_)),(2,some (I en)),(3,some (.vptr (srV s T ts w))),(6,some (.str p)),(7,some (.str q)),(8,some (.bool l)),(9,some (.bool r)),(14,some (slF 4 (ts.map Tk.pv))),(15,some (N ts.length)),(16,some (N (j+1)))] [] e D σ1):LL a93 0 [(1,some (I at_)),(2,some (I en)),(3,some (.vptr (srV s T ts w))),(6,some (.str p)),(7,some (.str q)),(8,some (.bool l)),(9,some (.bool r)),(14,some (slF 4 (ts.map Tk.pv))),(15,some (N ts.length)),(16,some (N j))] [] e D σ1:=
 BC [1,2,3,6,7,8,9,14,15,16] (bF O H c2++[sp 4 (LC .i64 V),sp 8 (Im .i64 b),sp 5 (AO j 1 am)]) a
end
end
def n93j(a:¬(j:Int) < (ts.length:Int)):LL a93 0 [(1,some (I at_)),(2,some (I en)),(3,some (.vptr (srV s T ts w))),(6,some (.str p)),(7,some (.str q)),(8,some (.bool l)),(9,some (.bool r)),(14,some (slF 4 (ts.map Tk.pv))),(15,some (N ts.length)),(16,some (N j))] [] (.exit 0) [(6,some (.str p)),(7,some (.str q)),(8,some (.bool l)),(9,some (.bool r))] []:=
 Bw [6,7,8,9] [sp 0 (Bh .i64 a)]
def BZ4(a:LL a93 0 [(1,some (I at_)),(2,some (I en)),(3,some (.vptr (srV s T ts w))),(6,some (.str [])),(7,some (.str [])),(8,some (.bool false)),(9,some (.bool false)),(14,some (slF 4 (ts.map Tk.pv))),(15,some (N ts.length)),(16,some (I 0))] [] (.exit 0) [(6,some (.str p)),(7,some (.str q)),(8,some (.bool l)),(9,some (.bool r))] []):EvE 93 [srV s T ts w,I at_,I en] (.tuple [.str p,.str q,.bool l,.bool r]):=
 rule RV93 [sp 0 (Hl s T ts w),sp 6 (ED false 4 ts),sl 1 [1,2,3,6,7,8,9,14,15,16] a]
section
variable(W:EvE 93 [srV s T ts w,I at_,I en] (.tuple [.str M,.str G,.bool true,.bool true]))(J:EvE 94 [.str t] (.tuple [slF 4 (F.map Tk.pv),I 0]))
include W J
def r9:List Stp:=[sp 0 (Hl s T ts w),st 1 (Q (Gz s T ts w)),st 2 (oC W),st 10 (oC J),sp 1 (CP (l:=[slF 4 (F.map Tk.pv),I 0]) 0 (v:=(slF 4 (F.map Tk.pv))) rfl (by first | rfl | simp) rfl),sp 0 (CP (l:=[slF 4 (F.map Tk.pv),I 0]) 1 (v:=(I 0)) rfl (by first | rfl | simp) rfl),sq 6 (ED false 4 F)]
theorem n48a(a:(F.length:Int) < 2):EvE 48 [srV s T ts w,I at_,I en,.str t] (.str t):=
 rule Qb (r9 W J++[sq 0 (AZ .i64 a)])
section
variable(V:¬(F.length:Int) < 2)(e4:EvE 95 [.str t,slF 4 (F.map Tk.pv)] (slF 1 (X.map PV.str)))
include V e4
theorem n48b(b:G=([]:List UInt8))(a:X[0]?=some x0)(d:EvE 96 [.str M,.str x0] (.str s6))(c:(s6:List UInt8).length+(t:List UInt8).length<=CL):EvE 48 [srV s T ts w,I at_,I en,.str t] (.str (s6++t)):=
 rule Qb (r9 W J++[sq 0 (Bh .i64 V),st 4 (oC e4),sq 4 (Nu b),sp 6 (Hf (z:=1) (f:=PV.str) 0 a),st 1 (oC d),sp 1 (Es c)])
theorem n48c(i:G≠([]:List UInt8))(c:X.length<1000000000)(b:2<=X.length)(a:X[X.length - 2]?=some A)(g:EvE 96 [.str A,.str G] (.str s6))(k:(t:List UInt8).length+(s6:List UInt8).length<=CL)(d:X[0]?=some x0){f:List UInt8}(e8:EvE 96 [.str M,.str x0] (.str f))(h:(f:List UInt8).length+((t++s6):List UInt8).length<=CL):EvE 48 [srV s T ts w,I at_,I en,.str t] (.str (f++(t++s6))):=
 rule Qb (r9 W J++[sq 0 (Bh .i64 V),st 4 (oC e4),sq 4 (UN i),sp 5 (JE (z:=1) PV.str X),sp 0 (Fb X.length 2 b am),sp 0 (Hf (z:=1) (f:=PV.str) (X.length - 2) a),st 2 (oC g),sp 0 (Es k),sp 5 (Hf (z:=1) (f:=PV.str) 0 d),st 1 (oC e8),sp 1 (Es h)])
end
end
section
variable(W:EvE 93 [srV s T ts w,I at_,I en] (.tuple [.str M,.str G,.bool true,.bool false]))(J:EvE 94 [.str t] (.tuple [slF 4 (F.map Tk.pv),I 0]))
include W J
def Ak0:List Stp:=[sp 0 (Hl s T ts w),st 1 (Q (Gz s T ts w)),st 2 (oC W),st 10 (oC J),sp 1 (CP (l:=[slF 4 (F.map Tk.pv),I 0]) 0 (v:=(slF 4 (F.map Tk.pv))) rfl (by first | rfl | simp) rfl),sp 0 (CP (l:=[slF 4 (F.map Tk.pv),I 0]) 1 (v:=(I 0)) rfl (by first | rfl | simp) rfl),sq 6 (ED false 4 F)]
theorem n48d(a:(F.length:Int) < 2):EvE 48 [srV s T ts w,I at_,I en,.str t] (.str t):=
 rule Qb (Ak0 W J++[sq 0 (AZ .i64 a)])
theorem n48e(d:¬(F.length:Int) < 2)(g:EvE 95 [.str t,slF 4 (F.map Tk.pv)] (slF 1 (X.map PV.str)))(b:X[0]?=some x0){a:List UInt8}(f:EvE 96 [.str M,.str x0] (.str a))(c:(a:List UInt8).length+(t:List UInt8).length<=CL):EvE 48 [srV s T ts w,I at_,I en,.str t] (.str (a++t)):=
 rule Qb (Ak0 W J++[sq 0 (Bh .i64 d),st 4 (oC g),sp 11 (Hf (z:=1) (f:=PV.str) 0 b),st 1 (oC f),sp 1 (Es c)])
end
section
variable(W:EvE 93 [srV s T ts w,I at_,I en] (.tuple [.str M,.str G,.bool false,.bool true]))(J:EvE 94 [.str t] (.tuple [slF 4 (F.map Tk.pv),I 0]))
include W J
def rZ:List Stp:=[sp 0 (Hl s T ts w),st 1 (Q (Gz s T ts w)),st 2 (oC W),st 10 (oC J),sp 1 (CP (l:=[slF 4 (F.map Tk.pv),I 0]) 0 (v:=(slF 4 (F.map Tk.pv))) rfl (by first | rfl | simp) rfl),sp 0 (CP (l:=[slF 4 (F.map Tk.pv),I 0]) 1 (v:=(I 0)) rfl (by first | rfl | simp) rfl),sq 6 (ED false 4 F)]
theorem n48f(a:(F.length:Int) < 2):EvE 48 [srV s T ts w,I at_,I en,.str t] (.str t):=
 rule Qb (rZ W J++[sq 0 (AZ .i64 a)])
section
variable(V:¬(F.length:Int) < 2)(e4:EvE 95 [.str t,slF 4 (F.map Tk.pv)] (slF 1 (X.map PV.str)))
include V e4
theorem n48g(a:G=([]:List UInt8)):EvE 48 [srV s T ts w,I at_,I en,.str t] (.str t):=
 rule Qb (rZ W J++[sq 0 (Bh .i64 V),st 4 (oC e4),sq 4 (Nu a)])
theorem n48h(f:G≠([]:List UInt8))(c:X.length<1000000000)(b:2<=X.length)(a:X[X.length - 2]?=some A)(g:EvE 96 [.str A,.str G] (.str s6))(d:(t:List UInt8).length+(s6:List UInt8).length<=CL):EvE 48 [srV s T ts w,I at_,I en,.str t] (.str (t++s6)):=
 rule Qb (rZ W J++[sq 0 (Bh .i64 V),st 4 (oC e4),sq 4 (UN f),sp 5 (JE (z:=1) PV.str X),sp 0 (Fb X.length 2 b am),sp 0 (Hf (z:=1) (f:=PV.str) (X.length - 2) a),st 2 (oC g),sp 0 (Es d)])
end
end
section
variable(W:EvE 93 [srV s T ts w,I at_,I en] (.tuple [.str M,.str G,.bool false,.bool false]))(J:EvE 94 [.str t] (.tuple [slF 4 (F.map Tk.pv),I 0]))
include W J
def AjZ:List Stp:=[sp 0 (Hl s T ts w),st 1 (Q (Gz s T ts w)),st 2 (oC W),st 10 (oC J),sp 1 (CP (l:=[slF 4 (F.map Tk.pv),I 0]) 0 (v:=(slF 4 (F.map Tk.pv))) rfl (by first | rfl | simp) rfl),sp 0 (CP (l:=[slF 4 (F.map Tk.pv),I 0]) 1 (v:=(I 0)) rfl (by first | rfl | simp) rfl),sq 6 (ED false 4 F)]
theorem n48i(a:(F.length:Int) < 2):EvE 48 [srV s T ts w,I at_,I en,.str t] (.str t):=
 rule Qb (AjZ W J++[sq 0 (AZ .i64 a)])
theorem n48j(b:¬(F.length:Int) < 2)(a:EvE 95 [.str t,slF 4 (F.map Tk.pv)] (slF 1 (X.map PV.str))):EvE 48 [srV s T ts w,I at_,I en,.str t] (.str t):=
 rule Qb (AjZ W J++[sq 0 (Bh .i64 b),st 4 (oC a)])
end
def BZ8(b:EvE 93 [srV s T ts w,I at_,I en] (.tuple [.str M,.str G,.bool true,.bool true]))(a:EvE 94 [.str t] (.tuple [.nils,I 8])):EvE 48 [srV s T ts w,I at_,I en,.str t] (.str t):=
 rule Qb [sp 0 (Hl s T ts w),st 1 (Q (Gz s T ts w)),st 2 (oC b),st 10 (oC a)]
def BZ7(b:EvE 93 [srV s T ts w,I at_,I en] (.tuple [.str M,.str G,.bool true,.bool false]))(a:EvE 94 [.str t] (.tuple [.nils,I 8])):EvE 48 [srV s T ts w,I at_,I en,.str t] (.str t):=
 rule Qb [sp 0 (Hl s T ts w),st 1 (Q (Gz s T ts w)),st 2 (oC b),st 10 (oC a)]
def BZ6(b:EvE 93 [srV s T ts w,I at_,I en] (.tuple [.str M,.str G,.bool false,.bool true]))(a:EvE 94 [.str t] (.tuple [.nils,I 8])):EvE 48 [srV s T ts w,I at_,I en,.str t] (.str t):=
 rule Qb [sp 0 (Hl s T ts w),st 1 (Q (Gz s T ts w)),st 2 (oC b),st 10 (oC a)]
def BZ5(b:EvE 93 [srV s T ts w,I at_,I en] (.tuple [.str M,.str G,.bool false,.bool false]))(a:EvE 94 [.str t] (.tuple [.nils,I 8])):EvE 48 [srV s T ts w,I at_,I en,.str t] (.str t):=
 rule Qb [sp 0 (Hl s T ts w),st 1 (Q (Gz s T ts w)),st 2 (oC b),st 10 (oC a)]
section
variable(O:U.kind=29)(J:EvE 93 [srV s T ts w,I K.st,I K.en] (.tuple [.str aa,.str ad,.bool l,.bool r]))
include O J
def AjY:List Stp:=[sp 0 (Hl s T ts w),sp 0 (BQ U),sp 0 (BQ K),sp 1 (BX U),sp 1 (Dr .i64 O),st 6 (Q (Gz s T ts w)),sp 0 (DD K),sp 1 (FV K),st 1 (oC J)]
theorem n52a(a:aa=([40]:List UInt8)):EvE 52 [srV s T ts w,U.pv,K.pv] (.bool (ad==([41]:List UInt8))):=
 rule yS (AjY O J++[sp 10 (H7 a)])
theorem n52b(a:aa≠([40]:List UInt8)):EvE 52 [srV s T ts w,U.pv,K.pv] (.bool false):=
 rule yS (AjY O J++[sp 10 (Ha a)])
end
section
variable(O:U.kind≠29)(h2:U.kind=28)(e3:EvE 93 [srV s T ts w,I K.st,I K.en] (.tuple [.str ab,.str ae,.bool l,.bool r]))
include O h2 e3
def AjX:List Stp:=[sp 0 (Hl s T ts w),sp 0 (BQ U),sp 0 (BQ K),sp 1 (BX U),sp 1 (C8 .i64 O),sq 1 (BX U),sq 1 (Dr .i64 h2),st 2 (Q (Gz s T ts w)),sp 0 (DD K),sp 1 (FV K),st 1 (oC e3)]
theorem n52c(a:ab=([40]:List UInt8)):EvE 52 [srV s T ts w,U.pv,K.pv] (.bool (ae==([41]:List UInt8))):=
 rule yS (AjX O h2 e3++[sp 10 (H7 a)])
theorem n52d(a:ab≠([40]:List UInt8)):EvE 52 [srV s T ts w,U.pv,K.pv] (.bool false):=
 rule yS (AjX O h2 e3++[sp 10 (Ha a)])
end
def n52e(a:U.kind≠29)(b:U.kind≠28):EvE 52 [srV s T ts w,U.pv,K.pv] (.bool false):=
 rule yS [sp 0 (Hl s T ts w),sp 0 (BQ U),sp 0 (BQ K),sp 1 (BX U),sp 1 (C8 .i64 a),sq 1 (BX U),sq 1 (C8 .i64 b)]
end
end
end Go.Abs.Z

namespace Go.Abs.Z
open Go.Proofs Go.RowKit
def AZD{t:List UInt8}(h:t=[]\/t=[32]):Cl t/\t.length<=1:=by
 rcases h with rfl | rfl
 ·exact⟨Fy,by simp⟩
 ·exact⟨UD (by decide),by simp⟩
section
variable{s:List UInt8}{T:Tr}{ts:List Tk}{w:Bool}(M:Fit s ts)(at_ en:Int)
include M
theorem JC:∀(n j:Nat) (p q:List UInt8) (l r:Bool),j+n=ts.length->p.length<=s.length/\q.length<=s.length->∃(d b:List UInt8) (f r':Bool),(d.length<=s.length/\b.length<=s.length)/\
  LL a93 0 [(1,some (I at_)),(2,some (I en)),(3,some (.vptr (srV s T ts w))),(6,some (.str p)),(7,some (.str q)),(8,some (.bool l)),(9,some (.bool r)),(14,some (slF 4 (ts.map Tk.pv))),(15,some (N ts.length)),(16,some (N j))] [] (.exit 0) [(6,some (.str d)),(7,some (.str b)),(8,some (.bool f)),(9,some (.bool r'))] []
 |0,j,p,q,l,r,y,k=>⟨p,q,l,r,k,n93j am⟩
 |n+1,j,p,q,l,r,y,k=>by
  have g:=Af (show j<ts.length by omega)
  obtain⟨A,u,v⟩:=M.2 _ (Am g);have z:=M.1;have e:(j:Int) < (ts.length:Int):=am
  have m:j<1000000000:=am
  have c:=K8 s _ _ u v;have t:((s.drop (ts[j]).a).take ((ts[j]).e - (ts[j]).a)).length<=s.length:=by rw[AA,Aw];omega
  generalize (s.drop (ts[j]).a).take ((ts[j]).e - (ts[j]).a)=x at c t;by_cases o:(((ts[j]).e:Nat):Int)<=at_
  ·by_cases a2:x=[]
   ·by_cases i:(((ts[j]).a:Nat):Int)>=en
    ·by_cases a4:q=[]
     ·obtain⟨d,b,f,r',h,L⟩:=JC n (j+1) p x l _ am ⟨k.1,t⟩
      exact⟨d,b,f,r',h,n93a e g c o a2 i a4 m L⟩
     ·obtain⟨d,b,f,r',h,L⟩:=JC n (j+1) p q l r am k
      exact⟨d,b,f,r',h,n93b e g c o a2 i a4 m L⟩
    ·obtain⟨d,b,f,r',h,L⟩:=JC n (j+1) p q l r am k
     exact⟨d,b,f,r',h,n93c e g c o a2 i m L⟩
   ·by_cases i:(((ts[j]).a:Nat):Int)>=en
    ·by_cases a4:q=[]
     ·obtain⟨d,b,f,r',h,L⟩:=JC n (j+1) x x _ _ am ⟨t,t⟩
      exact⟨d,b,f,r',h,n93d e g c o a2 i a4 m L⟩
     ·obtain⟨d,b,f,r',h,L⟩:=JC n (j+1) x q _ r am ⟨t,k.2⟩
      exact⟨d,b,f,r',h,n93e e g c o a2 i a4 m L⟩
    ·obtain⟨d,b,f,r',h,L⟩:=JC n (j+1) x q _ r am ⟨t,k.2⟩
     exact⟨d,b,f,r',h,n93f e g c o a2 i m L⟩
  ·by_cases i:(((ts[j]).a:Nat):Int)>=en
   ·by_cases a4:q=[]
    ·obtain⟨d,b,f,r',h,L⟩:=JC n (j+1) p x l _ am ⟨k.1,t⟩
     exact⟨d,b,f,r',h,n93g e g c o i a4 m L⟩
    ·obtain⟨d,b,f,r',h,L⟩:=JC n (j+1) p q l r am k
     exact⟨d,b,f,r',h,n93h e g c o i a4 m L⟩
   ·obtain⟨d,b,f,r',h,L⟩:=JC n (j+1) p q l r am k
    exact⟨d,b,f,r',h,n93i e g c o i m L⟩
theorem w93:∃(p q:List UInt8) (l r:Bool),(p.length<=s.length/\q.length<=s.length)/\E 93 [srV s T ts w,I at_,I en] [] (.tuple [.str p,.str q,.bool l,.bool r]) []:=by
 obtain⟨p,q,l,r,h,L⟩:=JC (T:=T) (w:=w) M at_ en ts.length 0 [] [] false false am ⟨by simp,by simp⟩
 exact⟨p,q,l,r,h,BZ4 L⟩
theorem w52(U K:Tr):∃b,E 52 [srV s T ts w,U.pv,K.pv] [] (.bool b) []:=by
 obtain⟨p,q,l,r,h,e⟩:=w93 (T:=T) (w:=w) M K.st K.en;by_cases a:U.kind=29
 ·by_cases c:p=[40]
  ·exact⟨_,n52a a e c⟩
  ·exact⟨_,n52b a e c⟩
 ·by_cases d:U.kind=28
  ·by_cases c:p=[40]
   ·exact⟨_,n52c a d e c⟩
   ·exact⟨_,n52d a d e c⟩
  ·exact⟨_,n52e a d⟩
theorem w48(D:s.length<=4096)(t:List UInt8)(c:Cl t)(K:t.length<=4000000):∃r,E 48 [srV s T ts w,I at_,I en,.str t] [] (.str r) []/\Cl r/\r.length<=t.length+2:=by
 obtain⟨p,q,l,r,B,e⟩:=w93 (T:=T) (w:=w) M at_ en;by_cases z:t.length<=4096
 ·have a:=e97 t z;have h:=Uk t z;by_cases b:(((Gl t).length:Nat):Int) < 2
  ·refine⟨t,?_,c,am⟩
   cases l<;>cases r
   ·exact n48i e a b
   ·exact n48f e a b
   ·exact n48d e a b
   ·exact n48a e a b
  ·obtain⟨d,⟨G,o⟩,f⟩:=w95 h (by intro q;rw[q] at b;simp at b)
   have i:=Af (show 0<d.length by omega)
   have m:=Af (show d.length - 2<d.length by omega)
   have x0:=o _ (Am i);have F:=o _ (Am m);obtain⟨u,j,C⟩:=w96 p _ (show p.length+(d[0]'am).length<=1000000 by omega)
   obtain⟨v,y,A⟩:=w96 (d[d.length - 2]'am) q am
   obtain⟨k,H⟩:=AZD C;obtain⟨cv,J⟩:=AZD A;have m1:u.length+t.length<=CL:=by simp only[CL];omega
   have m2:t.length+v.length<=CL:=by simp only[CL];omega
   have m3:u.length+(t++v).length<=CL:=by rw[Ae];simp only[CL];omega
   have x:d.length<1000000000:=by have:=h.1;omega
   have n:2<=d.length:=am
   cases l<;>cases r
   ·exact⟨_,n48j e a b f,c,am⟩
   ·by_cases g:q=[]
    ·exact⟨_,n48g e a b f g,c,am⟩
    ·exact⟨_,n48h e a b f g x n m y m2,EW c cv,by rw[Ae];omega⟩
   ·exact⟨_,n48e e a b f i j m1,EW k c,by rw[Ae];omega⟩
   ·by_cases g:q=[]
    ·exact⟨_,n48b e a b f g i j m1,EW k c,by rw[Ae];omega⟩
    ·exact⟨_,n48c e a b f g x n m y m2 i j m3,EW k (EW c cv),by simp only[Ae];omega⟩
 ·refine⟨t,?_,c,am⟩
  have a:=AkH (s:=t) am
  cases l<;>cases r
  ·exact BZ5 e a
  ·exact BZ6 e a
  ·exact BZ7 e a
  ·exact BZ8 e a
end
def qB{w p:List UInt8}{K:Sto}(h:w.length+p.length<=4294967296):E 113 [.ref 0 0,.str p] ([.bld 125 5 w]::K) (.tuple [N p.length,.nili]) ([.bld 125 5 (w++p)]::K):=by
 refine FC 0 λn _=>?_
 show Tv (run n) [.ref 0 0,.str p] ([.bld 125 5 w]::K)=_;show(if 125=125/\5=5/\w.length+p.length<=4294967296 then _ else _)=_
 rw[if_pos ⟨rfl,rfl,h⟩];rfl
def AK0{w:List UInt8}{K:Sto}:E 115 [.ref 0 0] ([.bld 125 5 w]::K) (.str w) ([.dead]::K):=FC 0 λn _=>rfl
def AZX:Rn 116 a116:=rn
def BY9:Rn 117 a117:=rn
def BW8:Rn 58 a58:=rn
section
variable{s t u:List UInt8}{a b z:Int}{e:CE}{k:FF}{l:Sto}
def BqG(d:¬a<0)(j:¬b<a)(i:¬b>(s.length:Int)){g:Int}(a4:BM (.bin .sub 0) [I b,I a] (I g)){h:Int}(a5:BM (.bin .sub 0) [N t.length,I g] (I h)){f:Int}(a6:BM (.bin .add 0) [N s.length,I h] (I f))(c:LL a116 0 [(0,some (.str s)),(5,some (I f)),(6,some (I b)),(11,some (slF 3 [.agg [I a,I b,.str t]])),(12,some (I 1)),(13,some (I 1))] [] e k l):LL a116 0 [(0,some (.str s)),(5,some (N s.length)),(6,some (I 0)),(11,some (slF 3 [.agg [I a,I b,.str t]])),(12,some (I 1)),(13,some (I 0))] [] e k l:=
 BC [0,5,6,11,12,13] [sp 2 (Nb false 3 0 [.agg [I a,I b,.str t]] _ rfl),sp 5 (Bh .i64 d),sq 5 (Bh .i64 j),sq 6 (Cz .i64 i),sp 6 (Bh .i64 d),sp 10 a4,sp 0 a5,sp 0 a6] c
def AzX:LL a116 0 [(0,some (.str s)),(5,some (I z)),(6,some (I b)),(11,some (slF 3 [.agg [I a,I b,.str t]])),(12,some (I 1)),(13,some (I 1))] [] (.exit 0) [(5,some (I z))] []:=
 Bw [5] []
section
variable(r:LL a116 0 [(0,some (.str s)),(5,some (N s.length)),(6,some (I 0)),(11,some (slF 3 [.agg [I a,I b,.str t]])),(12,some (I 1)),(13,some (I 0))] [] (.exit 0) [(5,some (I z))] [])
include r
theorem AzZ(c:z>16384):EvE 116 [.str s,slF 3 [.agg [I a,I b,.str t]]] (I 8):=
 rule AZX [sl 8 [0,5,6,11,12,13] r,sp 1 (CF .i64 c)]
theorem AzY(c:¬z>16384):EvE 116 [.str s,slF 3 [.agg [I a,I b,.str t]]] (I 0):=
 rule AZX [sl 8 [0,5,6,11,12,13] r,sp 1 (Cz .i64 c)]
end
def AZG{w:List UInt8}{c e:Int}(f:BM (.ssl true true) [.str s,I c,I e] (.str u))(d:w.length+u.length<=4294967296):E 117 [I e,.ref 0 0,.vptr (.str s),.ref 1 0] [[.bld 125 5 w],[I c]] (.tuple []) [[.bld 125 5 (w++u)],[I e]]:=
 rule BY9 [sp 3 f,st 0 (oW (qB (w:=w) (p:=u) (K:=[[I c]]) d)),st 1 (⟨0,λ_ _=>rfl⟩:Bt pur run (.w (.st 1)) [.ref 1 0,I e] [[.bld 125 5 (w++u)],[I c]] [] [[.bld 125 5 (w++u)],[I e]])]
def BVX(h:E 117 [I a,.ref 0 0,.vptr (.str s),.ref 1 0] [[.bld 125 5 []],[I 0]] (.tuple []) [[.bld 125 5 u],[I a]])(d:u.length+t.length<=4294967296)(c:LL a58 0 [(2,some (.vptr (.str s))),(7,some (.ref 0 0)),(8,some (.ref 1 0)),(9,some (.func 117 [] [.ref 0 0,.vptr (.str s),.ref 1 0])),(19,some (slF 3 [.agg [I a,I b,.str t]])),(20,some (I 1)),(21,some (I 1))] [[.bld 125 5 (u++t)],[I b]] e k l):LL a58 0 [(2,some (.vptr (.str s))),(7,some (.ref 0 0)),(8,some (.ref 1 0)),(9,some (.func 117 [] [.ref 0 0,.vptr (.str s),.ref 1 0])),(19,some (slF 3 [.agg [I a,I b,.str t]])),(20,some (I 1)),(21,some (I 0))] [[.bld 125 5 []],[I 0]] e k l:=
 BC [2,7,8,9,19,20,21] [sp 2 (Nb false 3 0 [.agg [I a,I b,.str t]] _ rfl),st 6 (Oh (fs:=[]) (vs:=[I a]) (r':=.tuple []) h (by rfl) rfl rfl rfl:Bt pur run (.w .DC) [.func 117 [] [.ref 0 0,.vptr (.str s),.ref 1 0],I a] [[.bld 125 5 []],[I 0]] [some (.tuple [])] [[.bld 125 5 u],[I a]]),st 2 (oW (qB (w:=u) (p:=t) (K:=[[I a]]) d)),st 2 (⟨0,λ_ _=>rfl⟩:Bt pur run (.w (.st 1)) [.ref 1 0,I b] [[.bld 125 5 (u++t)],[I a]] [] [[.bld 125 5 (u++t)],[I b]])] c
def BVW:LL a58 0 [(2,some (.vptr (.str s))),(7,some (.ref 0 0)),(8,some (.ref 1 0)),(9,some (.func 117 [] [.ref 0 0,.vptr (.str s),.ref 1 0])),(19,some (slF 3 [.agg [I a,I b,.str t]])),(20,some (I 1)),(21,some (I 1))] [[.bld 125 5 u],[I b]] (.exit 0) [(2,some (.vptr (.str s))),(7,some (.ref 0 0)),(9,some (.func 117 [] [.ref 0 0,.vptr (.str s),.ref 1 0]))] [[.bld 125 5 u],[I b]]:=
 Bw [2,7,9] []
def BVZ(h:EvE 116 [.str s,slF 3 [.agg [I a,I b,.str t]]] (I z))(c:z≠0):EvE 58 [.str s,slF 3 [.agg [I a,I b,.str t]]] (.tuple [.str [],I z]):=
 rule BW8 [st 5 (oC h),sp 2 (C8 .i64 c)]
def BVY{v:List UInt8}(h:EvE 116 [.str s,slF 3 [.agg [I a,I b,.str t]]] (I 0))(L:LL a58 0 [(2,some (.vptr (.str s))),(7,some (.ref 0 0)),(8,some (.ref 1 0)),(9,some (.func 117 [] [.ref 0 0,.vptr (.str s),.ref 1 0])),(19,some (slF 3 [.agg [I a,I b,.str t]])),(20,some (I 1)),(21,some (I 0))] [[.bld 125 5 []],[I 0]] (.exit 0) [(2,some (.vptr (.str s))),(7,some (.ref 0 0)),(9,some (.func 117 [] [.ref 0 0,.vptr (.str s),.ref 1 0]))] [[.bld 125 5 u],[I b]])(c:E 117 [I (s.length:Nat),.ref 0 0,.vptr (.str s),.ref 1 0] [[.bld 125 5 u],[I b]] (.tuple []) [[.bld 125 5 (u++v)],[I (s.length:Nat)]]):E 58 [.str s,slF 3 [.agg [I a,I b,.str t]]] [] (.tuple [.str (u++v),I 0]) [[.dead],[I (s.length:Nat)]]:=
 rule BW8 [st 5 (oC h),st 4 (⟨0,λ_ _=>rfl⟩:Bt pur run (.w (.alB 125 5)) [] [] [some (.ref 0 0)] [[.bld 125 5 []]]),st 0 (⟨0,λ_ _=>rfl⟩:Bt pur run (.w (.alO [I 0])) [] [[.bld 125 5 []]] [some (.ref 1 0)] [[.bld 125 5 []],[I 0]]),st 0 (⟨0,λ_ _=>rfl⟩:Bt pur run (.w (.st 1)) [.ref 1 0,I 0] [[.bld 125 5 []],[I 0]] [] [[.bld 125 5 []],[I 0]]),sl 5 [2,7,8,9,19,20,21] L,st 3 (Oh (fs:=[]) (vs:=[I (s.length:Nat)]) (r':=.tuple []) c (by rfl) rfl rfl rfl:Bt pur run (.w .DC) [.func 117 [] [.ref 0 0,.vptr (.str s),.ref 1 0],I (s.length:Nat)] [[.bld 125 5 u],[I b]] [some (.tuple [])] [[.bld 125 5 (u++v)],[I (s.length:Nat)]]),st 0 (oW (AK0 (w:=u++v) (K:=[[I (s.length:Nat)]])))]
end
def w58{s t:List UInt8}{a b:Nat}(h:a<=b)(hb:b<=s.length)(hs:s.length<=4096)(ht:t.length<=5000000):∃r z σ,E 58 [.str s,slF 3 [.agg [I a,I b,.str t]]] [] (.tuple [.str r,I z]) σ:=by
 have L:=BqG (s:=s) (t:=t) (a:=a) (b:=b) am am am rfl rfl rfl AzX
 by_cases hz:(IntKind.i64.wrap ((s.length:Int)+IntKind.i64.wrap ((t.length:Int) - IntKind.i64.wrap ((b:Int) - a)))) > 16384
 ·exact⟨_,_,_,BVZ (AzZ L hz) (by decide)⟩
 ·have c1:=K8 s 0 a (Ca _) am
  have c2:=K8 s b s.length hb (Ai _);have l1:((s.drop 0).take (a - 0)).length<=4096:=by rw[AA,Aw];omega
  have l2:((s.drop b).take (s.length - b)).length<=4096:=by rw[AA,Aw];omega
  generalize (s.drop 0).take (a - 0)=u at c1 l1;generalize (s.drop b).take (s.length - b)=v at c2 l2;exact⟨_,_,_,BVY (AzY L hz) (BVX (AZG (w:=[]) c1 (by simp;omega)) (by simp;omega) BVW) (AZG c2 (by rw[Ae];simp;omega))⟩
set_option maxRecDepth 100000
def as3:PV:=asV λi=>i==9||i==13||i==32
def zA:AQ (.sti 256) [.hole 256,as3]=some [some (.vptr as3)]:=by kernel_rfl
def AzA(c:UInt8):AQ (.ixa 256 1 false) [.vptr as3,.int .u8 (c.toNat:Int)]=some [some (.vptr (.bool (c.toNat==9||c.toNat==13||c.toNat==32)))]:=
 mQ ((List.range 256).map λi=>.bool (i==9||i==13||i==32)) c (by have:=c.toNat_lt;rw[Al,FO am,AJ])
def RV74:Rn 74 a74:=rn
def BY8:Rn 131 a131:=rn
def RV75:Rn 75 a75:=rn
def RV76:Rn 76 a76:=rn
def BWB:Rn 33 a33:=rn
def BW5:Rn 71 a71:=rn
def RV32:Rn 32 a32:=rn
def AZW:Rn 130 a130:=rn
section
variable{e:CE}{j:FF}{k:Sto}{s r u:List UInt8}{c:UInt8}{z1:Int}
def BjA(a:LL a74 0 [(0,some (.str [9,13,32])),(2,some (asV λi=>i==9)),(4,some (N 1))] [] e j k):LL a74 0 [(0,some (.str [9,13,32])),(2,some (asV λ_=>false)),(4,some (N 0))] [] e j k:=
 BC [0,2,4] [] a
def Bj9(a:LL a74 0 [(0,some (.str [9,13,32])),(2,some (asV λi=>i==9||i==13)),(4,some (N 2))] [] e j k):LL a74 0 [(0,some (.str [9,13,32])),(2,some (asV λi=>i==9)),(4,some (N 1))] [] e j k:=
 BC [0,2,4] [] a
def Bj8(a:LL a74 0 [(0,some (.str [9,13,32])),(2,some as3),(4,some (N 3))] [] e j k):LL a74 0 [(0,some (.str [9,13,32])),(2,some (asV λi=>i==9||i==13)),(4,some (N 2))] [] e j k:=
 BC [0,2,4] [] a
def Cq5:LL a74 0 [(0,some (.str [9,13,32])),(2,some as3),(4,some (N 3))] [] (.exit 0) [(0,some (.str [9,13,32])),(2,some as3)] []:=
 Bw [0,2] []
def t74:EvE 74 [.str [9,13,32]] (.tuple [as3,.bool true]):=
 rule RV74 [sl 3 [0,2,4] (BjA (Bj9 (Bj8 Cq5)))]
def t131(c:UInt8):EvE 131 [.vptr as3,.int .u8 (c.toNat:Int)] (.bool (c.toNat==9||c.toNat==13||c.toNat==32)):=
 rule BY8 [sp 4 (AzA c)]
def t75(L:LL a75 0 [(0,some (.str s)),(1,some (.vptr as3))] [] (.exit 0) [(0,some (.str r)),(1,some (.vptr as3))] []):EvE 75 [.str s,.vptr as3] (.str r):=
 rule RV75 [sl 1 [0,1] L]
def Cq2:LL a75 0 [(0,some (.str [])),(1,some (.vptr as3))] [] (.exit 0) [(0,some (.str [])),(1,some (.vptr as3))] []:=
 Bw [0,1] []
def t76(L:LL a76 0 [(0,some (.str s)),(1,some (.vptr as3))] [] (.exit 0) [(0,some (.str r)),(1,some (.vptr as3))] []):EvE 76 [.str s,.vptr as3] (.str r):=
 rule RV76 [sl 1 [0,1] L]
def BUZ:LL a76 0 [(0,some (.str [])),(1,some (.vptr as3))] [] (.exit 0) [(0,some (.str [])),(1,some (.vptr as3))] []:=
 Bw [0,1] []
def Cq3(h:EvE 131 [.vptr as3,.int .u8 (c.toNat:Int)] (.bool false)):LL a75 0 [(0,some (.str (c::s))),(1,some (.vptr as3))] [] (.exit 0) [(0,some (.str (c::s))),(1,some (.vptr as3))] []:=
 Bw [0,1] [sp 2 (CF .i64 (show(((c::s).length:Nat):Int) > 0 by rw[Ah];omega)),sp 3 (Bi (c::s) 0 c rfl),st 0 (FR (vs:=[.vptr as3,.int .u8 (c.toNat:Int)]) (zs:=[.vptr as3,.int .u8 (c.toNat:Int)]) (h:E 131 _ [] (.bool false) []) rfl rfl rfl rfl)]
def Cq4(h:EvE 131 [.vptr as3,.int .u8 (c.toNat:Int)] (.bool true))(a:LL a75 0 [(0,some (.str s)),(1,some (.vptr as3))] [] e j k):LL a75 0 [(0,some (.str (c::s))),(1,some (.vptr as3))] [] e j k:=
 BC [0,1] [sp 2 (CF .i64 (show(((c::s).length:Nat):Int) > 0 by rw[Ah];omega)),sp 3 (Bi (c::s) 0 c rfl),st 0 (FR (vs:=[.vptr as3,.int .u8 (c.toNat:Int)]) (zs:=[.vptr as3,.int .u8 (c.toNat:Int)]) (h:E 131 _ [] (.bool true) []) rfl rfl rfl rfl),sp 3 (lg c s)] a
def Cq0(a:1<=s.length)(b:s.length<1000000000)(g:s[s.length - 1]?=some c)(h:EvE 131 [.vptr as3,.int .u8 (c.toNat:Int)] (.bool false)):LL a76 0 [(0,some (.str s)),(1,some (.vptr as3))] [] (.exit 0) [(0,some (.str s)),(1,some (.vptr as3))] []:=
 Bw [0,1] [sp 2 (CF .i64 (show(s.length:Int) > 0 by omega)),sp 5 (Fb s.length 1 a am),sp 0 (Bi s (s.length - 1) c g),st 0 (FR (vs:=[.vptr as3,.int .u8 (c.toNat:Int)]) (zs:=[.vptr as3,.int .u8 (c.toNat:Int)]) (h:E 131 _ [] (.bool false) []) rfl rfl rfl rfl)]
def Cq1(b:1<=s.length)(f:s.length<1000000000)(g:s[s.length - 1]?=some c)(h:EvE 131 [.vptr as3,.int .u8 (c.toNat:Int)] (.bool true))(d:s.take (s.length - 1)=u)(a:LL a76 0 [(0,some (.str u)),(1,some (.vptr as3))] [] e j k):LL a76 0 [(0,some (.str s)),(1,some (.vptr as3))] [] e j k:=
 BC [0,1] [sp 2 (CF .i64 (show(s.length:Int) > 0 by omega)),sp 5 (Fb s.length 1 b am),sp 0 (Bi s (s.length - 1) c g),st 0 (FR (vs:=[.vptr as3,.int .u8 (c.toNat:Int)]) (zs:=[.vptr as3,.int .u8 (c.toNat:Int)]) (h:E 131 _ [] (.bool true) []) rfl rfl rfl rfl),sp 5 (Fb s.length 1 b am),sp 0 ((SE s (s.length - 1) am).trans (by rw[d]))] a
def Cq9:EvE 33 [.str [],.str [9,13,32]] (.str []):=
 rule BWB []
def Cq8(a:EvE 76 [.str (c::s),.vptr as3] (.str u))(b:EvE 75 [.str u,.vptr as3] (.str r)):EvE 33 [.str (c::s),.str [9,13,32]] (.str r):=
 rule BWB [st 18 (oC t74),sp 1 (CP (l:=[as3,.bool true]) 0 (v:=as3) rfl rfl rfl),sp 0 (CP (l:=[as3,.bool true]) 1 (v:=.bool true) rfl rfl rfl),sp 1 zA,st 4 (FR (vs:=[.str (c::s),.vptr as3]) (zs:=[.str (c::s),.vptr as3]) (a:E 76 _ [] (.str u) []) rfl rfl rfl rfl),st 0 (FR (vs:=[.str u,.vptr as3]) (zs:=[.str u,.vptr as3]) (b:E 75 _ [] (.str r) []) rfl rfl rfl rfl)]
def Cq7(g:EvE 130 [.str s,.str [10]] (I z1))(h:z1>=0){b:List UInt8}(i:BM (.ssl false true) [.str s,I z1] (.str b)){a:Int}(a4:BM (.bin .add 0) [I z1,I 1] (I a)){d:List UInt8}(f:BM (.ssl true false) [.str s,I a] (.str d)):EvE 71 [.str s,.str [10]] (.tuple [.str b,.str d,.bool true]):=
 rule BW5 [st 5 (oC g),sp 2 (Gi .i64 h),sp 3 i,sp 4 a4,sp 0 f]
def Cq6(b:EvE 130 [.str s,.str [10]] (I z1))(a:¬z1>=0):EvE 71 [.str s,.str [10]] (.tuple [.str s,.str [],.bool false]):=
 rule BW5 [st 5 (oC b),sp 2 (Im .i64 a)]
def BjB{b:Bool}{d:List UInt8}{a:List UInt8}(f:EvE 71 [.str s,.str [10]] (.tuple [.str d,.str a,.bool b])):EvE 32 [.str s,.str [10]] (.tuple [.str d,.str a,.bool b]):=
 rule RV32 [st 5 (oC f)]
def BjD(a:([10]:List UInt8)=s):EvE 130 [.str s,.str [10]] (I 0):=
 rule AZW [sq 9 (H7 a)]
def BjC(b:([10]:List UInt8)≠s){a:Int}(d:EvE 185 [.str s,.int .u8 10] (I a)):EvE 130 [.str s,.str [10]] (I a):=
 rule AZW [sq 9 (Ha b),st 10 (oC d)]
end
def w3(c:UInt8):Bool:=c.toNat==9||c.toNat==13||c.toNat==32
def Aj7{l:List UInt8}(h:l.all w3=true):Cl l:=UC h (by decide)
def Xd:∀s:List UInt8,∃r,LL a75 0 [(0,some (.str s)),(1,some (.vptr as3))] [] (.exit 0) [(0,some (.str r)),(1,some (.vptr as3))] []/\(r=[]->Cl s)
 |[]=>⟨[],Cq2,λ_=>Fy⟩
 |c::s=>by
  have h:=t131 c;cases b:w3 c with
  |true=>
   rw[show(c.toNat==9||c.toNat==13||c.toNat==32)=true from b] at h
   obtain⟨r,L,d⟩:=Xd s;refine⟨r,Cq4 h L,λe=>?_⟩
   exact EW (a:=[c]) (Aj7 (by simp[b])) (d e)
  |false=>
   rw[show(c.toNat==9||c.toNat==13||c.toNat==32)=false from b] at h
   exact⟨_,Cq3 h,nofun⟩
def SY:∀(n:Nat) (s:List UInt8),s.length=n->s.length<1000000000->∃r q,s=r++q/\Cl q/\LL a76 0 [(0,some (.str s)),(1,some (.vptr as3))] [] (.exit 0) [(0,some (.str r)),(1,some (.vptr as3))] []
 |0,s,h,_=>by
  have:=Ak.1 h;subst this;exact⟨[],[],rfl,Fy,BUZ⟩
 |n+1,s,h,i=>by
  have g:=Af (show s.length - 1<s.length by omega)
  have f:s.take (s.length - 1)++[s[s.length - 1]'am]=s:=by
   have:=List.take_append_getElem (show s.length - 1<s.length by omega)
   rw[this,show s.length - 1+1=s.length by omega,FJ]
  generalize s[s.length - 1]'am=c at g f
  have b:=t131 c;cases d:w3 c with
  |true=>
   rw[show(c.toNat==9||c.toNat==13||c.toNat==32)=true from d] at b
   obtain⟨r,q,e,j,L⟩:=SY n (s.take (s.length - 1)) (by rw[AA];omega) (by rw[AA];omega)
   exact⟨r,q++[c],by rw[<-AC,<-e,f],EW j (Aj7 (by simp[d])),Cq1 am i g b rfl L⟩
  |false=>
   rw[show(c.toNat==9||c.toNat==13||c.toNat==32)=false from d] at b
   exact⟨s,[],by simp,Fy,Cq0 am i g b⟩
def w33(s:List UInt8)(b:s.length<1000000000):∃r,E 33 [.str s,.str [9,13,32]] [] (.str r) []/\(r=[]->Cl s):=by
 cases s with
 |nil=>exact⟨_,Cq9,λ_=>Fy⟩
 |cons c s=>
  obtain⟨r,q,e,d,L⟩:=SY _ (c::s) rfl b;obtain⟨u,f,a⟩:=Xd r;exact⟨u,Cq8 (t76 L) (t75 f),λh=>by rw[e];exact EW (a h) d⟩
def mW{c:UInt8}:∀(s:List UInt8) (k:Nat),Lib.indexByte s c=(k:Int)->s[k]?=some c
 |[],k,h=>by simp[Lib.indexByte] at h
 |b::s,k,h=>by
  unfold Lib.indexByte at h
  split at h
  ·rename_i f;have:k=0:=am
   subst this
   simp_all
  ·rename_i f
   split at h
   ·omega
   ·cases k with
    |zero=>
     have:=Lib.indexByte_ge s c;rename_i g;have:¬Lib.indexByte s c=-1:=λe=>g (by rw[e];rfl)
     omega
    |succ k=>
     have:=mW (c:=c) s k am
     simpa using this
def e185(s:List UInt8):E 185 [.str s,.int .u8 10] [] (I (Lib.indexByte s 10)) []:=FC 0 λn _=>rfl
def w32(s:List UInt8)(l:s.length<1000000000):∃r u b,E 32 [.str s,.str [10]] [] (.tuple [.str r,.str u,.bool b]) []/\((b=false/\r=s)\/(b=true/\s=r++10::u)):=by
 have e:E 130 [.str s,.str [10]] [] (I (Lib.indexByte s 10)) []:=by
  by_cases h:([10]:List UInt8)=s
  ·subst h;exact BjD rfl
  ·exact BjC h (e185 s)
 by_cases h:Lib.indexByte s 10>=0
 ·obtain⟨k,c⟩:∃k:Nat,Lib.indexByte s 10=k:=⟨_,(Int.toNat_of_nonneg h).symm⟩;rw[c] at e h;have g:=mW s k c;have i:=(Ad.1 g).1
  have f:s=s.take k++10::s.drop (k+1):=by
   obtain⟨d,j⟩:=Ad.1 g;rw[<-j,List.getElem_cons_drop d,BH]
  refine⟨s.take k,s.drop (k+1),true,BjB (Cq7 e h (SE s k am) (AO k 1 am) ?_),.inr ⟨rfl,f⟩⟩
  exact SC s (k+1) am
 ·exact⟨s,[],false,BjB (Cq6 e h),.inl ⟨rfl,rfl⟩⟩
mutual
def Tr.eqv:Tr->Tr->Bool
 |.mk k t a e _ ks,.mk k' t' a' e' _ ks'=>decide (k=k')&&(decide (t=t')&&(decide (a=a')&&(decide (e=e')&&PL ks ks')))
def PL:List Tr->List Tr->Bool
 |[],[]=>true
 |x::xs,y::ys=>x.eqv y&&PL xs ys
 |[],_::_=>false
 |_::_,[]=>false
end
mutual

def Tr.bare:Tr->Tr
 |.mk k t a e _ ks=>.mk k t a e false (I1 ks)
def I1:List Tr->List Tr
 |[]=>[]
 |x::xs=>x.bare::I1 xs
end
mutual
def mZ:∀A B:Tr,A.eqv B=true↔A.bare=B.bare
 |.mk k t a e n ks,.mk k' t' a' e' n' ks'=>by
  have h:=Ut ks ks';simp only[Tr.eqv,Tr.bare,Aj,decide_eq_true_eq,Tr.mk.injEq,h,true_and]
def Ut:∀xs ys:List Tr,PL xs ys=true↔I1 xs=I1 ys
 |[],[]=>by simp[PL,I1]
 |x::xs,y::ys=>by simp only[PL,I1,Aj,List.cons.injEq,mZ x y,Ut xs ys]
 |[],_::_=>by simp[PL,I1]
 |_::_,[]=>by simp[PL,I1]
end
def QV:∀xs:List Tr,I1 xs=xs.map Tr.bare
 |[]=>rfl
 |x::xs=>by rw[I1,QV xs];rfl
def XE:∀{xs ys:List Tr},I1 xs=I1 ys->xs.length=ys.length:=λh=>by
 have:=congrArg List.length h
 rwa [QV,QV,Ap,Ap] at this
end Go.Abs.Z

namespace Go.Abs.Z
noncomputable section
open PV
open Go.Proofs Go.RowKit
section
variable{A B:Tr}
def BU4(a:A.kind≠B.kind):EvE 111 [A.pv,B.pv] (.bool false):=
 rule yP [sp 0 (BQ A),sp 0 (BQ B),sp 1 (BX A),sp 1 (BX B),sp 1 (Bb .i64 a)]
section
variable(r:A.kind=B.kind)
include r
def q9:List Stp:=[sp 0 (BQ A),sp 0 (BQ B),sp 1 (BX A),sp 1 (BX B),sp 1 (Bz .i64 r),sq 1 (Er A),sq 1 (Er B)]
theorem BU3(a:A.text≠B.text):EvE 111 [A.pv,B.pv] (.bool false):=
 rule yP (q9 r++[sq 1 (II a)])
theorem BU2(a:A.text=B.text)(b:A.st≠B.st):EvE 111 [A.pv,B.pv] (.bool false):=
 rule yP (q9 r++[sq 1 (Jb a),sq 2 (DD A),sq 1 (DD B),sq 1 (Bb .i64 b)])
theorem BU1(a:A.text=B.text)(b:A.st=B.st)(c:A.en≠B.en):EvE 111 [A.pv,B.pv] (.bool false):=
 rule yP (q9 r++[sq 1 (Jb a),sq 2 (DD A),sq 1 (DD B),sq 1 (Bz .i64 b),sq 2 (FV A),sq 1 (FV B),sq 1 (Bb .i64 c)])
end
def BU0{b:Bool}(a:A.kind=B.kind)(e:A.text=B.text)(c:A.st=B.st)(d:A.en=B.en)(h:EvE 157 [A.kp,B.kp,.func 111 [] []] (.bool b)):EvE 111 [A.pv,B.pv] (.bool b):=
 rule yP [sp 0 (BQ A),sp 0 (BQ B),sp 1 (BX A),sp 1 (BX B),sp 1 (Bz .i64 a),sq 1 (Er A),sq 1 (Er B),sq 1 (Jb e),sq 2 (DD A),sq 1 (DD B),sq 1 (Bz .i64 c),sq 2 (FV A),sq 1 (FV B),sq 1 (Bz .i64 d),sq 2 (DI A),sg 0 (Q (EE A)),sq 0 (DI B),sg 0 (Q (EE B)),sg 0 (oC h ⟨by simp<;>rfl,by simp,rfl,rfl⟩)]
section
variable(k:A.wf)(p:B.wf)
include k p
def q8:List Stp:=[sp 1 (Xa A),sp 0 (EZ k),sp 0 (Xa B),sp 0 (EZ p)]
theorem Bx0(h:A.kids.length≠B.kids.length):EvE 157 [A.kp,B.kp,.func 111 [] []] (.bool false):=
 rule yQ (q8 k p++[sp 0 (C8 .i64 (show(A.kids.length:Int)≠(B.kids.length:Int) by omega))])
theorem BqZ(h:A.kids.length=B.kids.length)(l:LL a157 0 [(1,B.kp),(2,func 111 [] []),(15,A.kp),(16,N A.kids.length),(17,N 0)] [] (.exit 0) [] []):EvE 157 [A.kp,B.kp,.func 111 [] []] (.bool true):=
 rule yQ (q8 k p++[sp 0 (Dr .i64 (show(A.kids.length:Int)=(B.kids.length:Int) by omega)),sp 1 (Xa A),sp 0 (EZ k),sl 1 [1,2,15,16,17] l])
theorem BqY(h:A.kids.length=B.kids.length)(l:LL a157 0 [(1,B.kp),(2,func 111 [] []),(15,A.kp),(16,N A.kids.length),(17,N 0)] [] .ret [(6,bool false)] []):EvE 157 [A.kp,B.kp,.func 111 [] []] (.bool false):=
 rule yQ (q8 k p++[sp 0 (Dr .i64 (show(A.kids.length:Int)=(B.kids.length:Int) by omega)),sp 1 (Xa A),sp 0 (EZ k),sl 1 [1,2,15,16,17] l])
end
end
section
variable{A B U V:Tr}{j:Nat}(k:A.wf)(p:B.wf)
include k p
theorem Aj4(g:j<A.kids.length)(f:A.kids[j]?=some U)(c:B.kids[j]?=some V)(h:EvE 111 [U.pv,V.pv] (.bool true))(l:j<2000000000){e:CE}{b:FF}{a:Sto}(d:LL a157 0 [(1,B.kp),(2,func 111 [] []),(15,A.kp),(16,N A.kids.length),(17,N (j+1))] [] e b a):LL a157 0 [(1,B.kp),(2,func 111 [] []),(15,A.kp),(16,N A.kids.length),(17,N j)] [] e b a:=
 BC [1,2,15,16,17] [sp 0 (AZ .i64 (show(j:Int) < (A.kids.length:Int) by omega)),sp 2 (EL j k f),st 0 (Q (AL U)),sp 2 (BD U),sp 0 (Xa B),sp 1 (EL j p c),st 0 (Q (AL V)),sp 1 (BD V),st 1 (Q (AL U)),st 0 (Q (AL V)),st 0 (KE h rfl (by simp) (by simp) (by simp) rfl rfl:Bt pur run (.w .DC) [.func 111 [] [],U.pv,V.pv] [] [some (.bool true)] []),sp 2 (AO j 1 l)] d
theorem BqX(c:j<A.kids.length)(b:A.kids[j]?=some U)(a:B.kids[j]?=some V)(h:EvE 111 [U.pv,V.pv] (.bool false)):LL a157 0 [(1,B.kp),(2,func 111 [] []),(15,A.kp),(16,N A.kids.length),(17,N j)] [] .ret [(6,bool false)] []:=
 Bw [6] [sp 0 (AZ .i64 (show(j:Int) < (A.kids.length:Int) by omega)),sp 2 (EL j k b),st 0 (Q (AL U)),sp 2 (BD U),sp 0 (Xa B),sp 1 (EL j p a),st 0 (Q (AL V)),sp 1 (BD V),st 1 (Q (AL U)),st 0 (Q (AL V)),st 0 (KE h rfl (by simp) (by simp) (by simp) rfl rfl:Bt pur run (.w .DC) [.func 111 [] [],U.pv,V.pv] [] [some (.bool false)] [])]
end
def BqW{A B:Tr}{j:Nat}(a:¬j<A.kids.length):LL a157 0 [(1,B.kp),(2,func 111 [] []),(15,A.kp),(16,N A.kids.length),(17,N j)] [] (.exit 0) [] []:=
 Bw [] [sp 0 (Bh .i64 (show ¬(j:Int) < (A.kids.length:Int) by omega))]
end
end Go.Abs.Z

namespace Go.Abs.Z
open Go.Proofs Go.RowKit
def AUC{T K:Tr}{i:Nat}(w:T.wf)(h:T.kids[i]?=some K):K.wf:=by
 obtain⟨k,t,a,e,n,ks⟩:=T;exact Tr.OZ w.2 K (Am h)
section
variable{s:Str}{T:Tr}{ts:List Tk}{D:List PV}(w:T.wf)(j:T.nds.length<=400000)(d:ts.length<=1000000000)
 (h5:E 110 [.str s] [] (.tuple [T.pv,Ci 5 D,I 0]) []) (h6:E 94 [.str s] [] (.tuple [.slice false 4 (ts.map Tk.pv),I 0]) [])
include w j d h5 h6
end
def Ma{a:Type}{l r:List a}{x:a}{j:Nat}(h:l.drop j=x::r):l[j]?=some x/\l.drop (j+1)=r:=by
 refine⟨?_,by rw[<-List.tail_drop,h];rfl⟩
 have:=congrArg List.head? h
 rwa [List.head?_drop,List.head?_cons] at this
def gI{A B:Tr}(g:A.wf)(f:B.wf)(r:A.kids.length<2000000000)
  (n:∀(i:Nat) (U V:Tr),A.kids[i]?=some U->B.kids[i]?=some V->E 111 [U.pv,V.pv] [] (.bool (U.eqv V)) []):∀(xs ys:List Tr) (j:Nat),xs.length=ys.length->A.kids.drop j=xs->B.kids.drop j=ys->
  (PL xs ys=true->LL a157 0 [(1,some B.kp),(2,some (.func 111 [] [])),(15,some A.kp),(16,some (N A.kids.length)),(17,some (N j))] [] (.exit 0) [] [])/\
  (PL xs ys=false->LL a157 0 [(1,some B.kp),(2,some (.func 111 [] [])),(15,some A.kp),(16,some (N A.kids.length)),(17,some (N j))] [] .ret [(6,some (.bool false))] [])
 |[],[],j,b,l,o=>⟨λ_=>BqW (by rw[AY] at l;omega),λh=>by cases h⟩
 |[],_::_,j,b,_,_=>by cases b
 |_::_,[],j,b,_,_=>by cases b
 |x::xs,y::ys,j,b,l,o=>by
  obtain⟨d,q⟩:=Ma l;obtain⟨k,s⟩:=Ma o;have m:=(Ad.1 d).1;obtain⟨t,p⟩:=gI g f r n xs ys (j+1) (by simpa using b) q s
  have a:=n j x y d k;cases e:x.eqv y with
  |true=>
   rw[e] at a;rw[PL,e,Da];exact⟨λh=>Aj4 g f m d k a am (t h),λh=>Aj4 g f m d k a am (p h)⟩
  |false=>
   rw[e] at a;rw[PL,e,FB];exact⟨λh=>(by cases h),λ_=>BqX g f m d k a⟩
def xR:∀{xs ys:List Tr},xs.length≠ys.length->PL xs ys=false:=λ{xs ys} h=>by
 rw[Bool.eq_false_iff];intro a;exact h (XE ((Ut xs ys).1 a))
def AzM(A B:Tr):A.eqv B=(decide (A.kind=B.kind)&&(decide (A.text=B.text)&&(decide (A.st=B.st)&&(decide (A.en=B.en)&&PL A.kids B.kids)))):=by cases A;cases B;rfl
def Bq0{A B:Tr}(f:A.wf)(g:B.wf)(k:A.kids.length<2000000000)
  (m:∀(i:Nat) (U V:Tr),A.kids[i]?=some U->B.kids[i]?=some V->E 111 [U.pv,V.pv] [] (.bool (U.eqv V)) []):E 111 [A.pv,B.pv] [] (.bool (A.eqv B)) []:=by
 rw[AzM];by_cases a:A.kind=B.kind
 ·by_cases b:A.text=B.text
  ·by_cases c:A.st=B.st
   ·by_cases e:A.en=B.en
    ·rw[decide_eq_true a,decide_eq_true b,decide_eq_true c,decide_eq_true e];simp only[Da];refine BU0 a b c e ?_
     by_cases d:A.kids.length=B.kids.length
     ·obtain⟨j,l⟩:=gI f g k m A.kids B.kids 0 d rfl rfl;cases h:PL A.kids B.kids with
      |true=>exact BqZ f g d (j h)
      |false=>exact BqY f g d (l h)
     ·rw[xR d];exact Bx0 f g d
    ·rw[decide_eq_true a,decide_eq_true b,decide_eq_true c,decide_eq_false e];exact BU1 a b c e
   ·rw[decide_eq_true a,decide_eq_true b,decide_eq_false c];exact BU2 a b c
  ·rw[decide_eq_true a,decide_eq_false b];exact BU3 a b
 ·rw[decide_eq_false a];exact BU4 a
def lst(s:List UInt8):Nat->Nat
 |0=>0
 |a+1=>if s[a]?=some 10 then a+1 else lst s a
def QF(s:List UInt8):∀a,lst s a<=a
 |0=>Ai _
 |a+1=>by
  have:=QF s a;rw[lst];split<;>omega
def fC(s:List UInt8)(n:Nat):∀a,a<=n->lst (s.take n) a=lst s a
 |0,_=>rfl
 |a+1,h=>by
  have e:(s.take n)[a]?=s[a]?:=by rw[CO,if_pos am]
  show(if(s.take n)[a]?=some 10 then a+1 else lst (s.take n) a)=if s[a]?=some 10 then a+1 else lst s a
  rw[e,fC s n a am]
def c10{c:UInt8}:((c.toNat:Nat):Int)=10↔c=10:=by
 constructor
 ·intro h;apply UInt8.toNat_inj.1;have:(10:UInt8).toNat=10:=rfl;omega
 ·intro h;subst h;rfl
def XF{t:List UInt8}(e:t.length<1000000000):∀k,k<t.length->
  (lst t (k+1)=0->LL U3 0 [(0,some (.str t)),(1,some (.int .u8 10)),(5,some (N k))] [] (.exit 0) [] [])/\
  (∀m,lst t (k+1)=m+1->LL U3 0 [(0,some (.str t)),(1,some (.int .u8 10)),(5,some (N k))] [] .ret [(4,some (N m))] [])
 |k,h=>by
  have g:t[k]?=some t[k]:=Af h;rw[lst,g];by_cases c:t[k]=10
  ·rw[if_pos (by rw[c])]
   refine⟨λh=>am,λm d=>?_⟩
   obtain rfl:k=m:=am
   exact AJ3 g (c10.2 c)
  ·rw[if_neg (by simp[c])]
   have b:((t[k].toNat:Nat):Int)≠10:=λh=>c (c10.1 h)
   cases k with
   |zero=>
    refine⟨λ_=>AJ2 g b qy,λm d=>?_⟩
    rw[lst] at d;omega
   |succ k=>
    obtain⟨i,f⟩:=XF e k am
    exact⟨λh=>qx g b am am (i h),λm d=>qx g b am am (f m d)⟩
def e28{s:List UInt8}(h:s.length<1000000000){a:Nat}(b:a<=s.length):E 34 [.str s,N a] [] (N (lst s a)) []:=by
 have f:(s.take a).length=a:=by rw[AA];omega
 have g:=fC s a a (Ai _);cases a with
 |zero=>exact AJ1 (z:=-1) b (AJ0 AJ6) rfl
 |succ k=>
  obtain⟨c,d⟩:=XF (t:=s.take (k+1)) am k am
  rw[g] at c d;cases e:lst s (k+1) with
  |zero=>
   refine AJ1 (z:=-1) b (AJ0 (AJ5 am am ?_)) rfl
   rw[f];exact c e
  |succ m=>
   have:=QF s (k+1);refine AJ1 (z:=(m:Nat)) b (AJ0 (AJ4 (k:=m) am am ?_)) (AO m 1 am)
   rw[f];exact d m e
def bl(c:UInt8):Bool:=c.toNat==9||c.toNat==32
def WE:∀s:List UInt8,LL a75 0 [(0,some (.str s)),(1,some (.vptr (asV λi=>i==9||i==32)))] [] (.exit 0) [(0,some (.str (s.dropWhile bl))),(1,some (.vptr (asV λi=>i==9||i==32)))] []
 |[]=>Bx1
 |c::s=>by
  have h:=Bx7 c;rw[List.dropWhile_cons];cases b:bl c with
  |true=>
   rw[show(c.toNat==9||c.toNat==32)=true from b] at h
   rw[if_pos rfl];exact Bx3 h (WE s)
  |false=>
   rw[show(c.toNat==9||c.toNat==32)=false from b] at h
   rw[if_neg (by simp)]
   exact Bx2 h
def e29(s:List UInt8):E 63 [.str s,.str [9,32]] [] (.str (s.dropWhile bl)) []:=by
 by_cases a:s=[]
 ·subst a;exact Bx6
 ·exact Bx5 a (BU5 (WE s))
def qW(s:List UInt8):(s.takeWhile bl).length+(s.dropWhile bl).length=s.length:=by
 rw[<-Ae,EA]
def RV22:Rn 22 a22:=rn
def RV21:Rn 21 a21:=rn
section
variable{s:List UInt8}{T K:Tr}{ts:List Tk}{w:Bool}
def BUX{z1:Int}(e1:EvE 34 [.str s,I K.st] (I z1)){s2:List UInt8}(c2:BM (.ssl true true) [.str s,I z1,I K.st] (.str s2)){s3:List UInt8}(e3:EvE 33 [.str s2,.str [9,13,32]] (.str s3)):EvE 22 [srV s T ts w,K.pv] (.bool (s3==([]:List UInt8))):=
 rule RV22 [sp 0 (Hl s T ts w),sp 0 (BQ K),sp 5 (DD K),st 1 (oC e1),sp 0 (DD K),sp 1 c2,st 0 (oC e3)]
def BUY{z:Int}{s1a:List UInt8}{z1:Int}(e1:EvE 61 [K.pv,I 0] (.tuple [.str s1a,I z1])){s2:List UInt8}(e2:EvE 23 [.str s,I z] (.str s2))(l3:([10]:List UInt8).length+(s2:List UInt8).length<=CL){s4:List UInt8}(e4:EvE 62 [.str s1a,.str [10],.str ([10]++s2)] (.str s4)):EvE 21 [srV s T ts w,K.pv,I z] (.tuple [.str s4,I z1]):=
 rule RV21 [sp 0 (Hl s T ts w),sp 0 (BQ K),st 2 (Q (AL K)),st 0 (oC e1),st 9 (oC e2),sp 0 (Es l3),st 0 (oC e4)]
end
def zw(s:List UInt8):s.take (s.length - (s.dropWhile bl).length)=s.takeWhile bl:=by
 have h:=qW s;have e:s.length - (s.dropWhile bl).length=(s.takeWhile bl).length:=am
 rw[e]
 conv=>lhs;arg 2;rw[<-EA (p:=bl) (l:=s)]
 rw[List.take_left]
def BVM(s:List UInt8):Cl (s.takeWhile bl):=UC (p:=bl) List.all_takeWhile (by decide)
def w23(s:List UInt8)(c:s.length<1000000000)(z:Int):∃r,E 23 [.str s,I z] [] (.str r) []/\Cl r/\r.length<=s.length:=by
 by_cases b:z<0
 ·exact⟨_,BxA b,Fy,by simp⟩
 by_cases e:z>(s.length:Int)
 ·exact⟨_,Bx9 b e,Fy,by simp⟩
 obtain⟨a,rfl⟩:∃a:Nat,z=a:=⟨z.toNat,am⟩
 have f:=QF s a;have d:=qW (s.drop (lst s a));refine⟨_,Bx8 am (e28 c am) am (e29 _) am am,?_,?_⟩
 ·rw[zw];exact BVM _
 ·rw[AA,Aw];omega
def w22{s:List UInt8}{T K:Tr}{ts:List Tk}{w:Bool}(g:s.length<1000000000){a:Nat}(f:K.st=a)(d:a<=s.length):∃b,E 22 [srV s T ts w,K.pv] [] (.bool b) []:=by
 have e:=e28 g d;have h:=QF s a;have c:=K8 s (lst s a) a h d;obtain⟨r,i,_⟩:=w33 ((s.drop (lst s a)).take (a - lst s a)) (by rw[AA,Aw];omega)
 refine⟨_,BUX (z1:=(lst s a:Nat)) (by rw[f];exact e) (by rw[f];exact c) i⟩
def KI(X:PV)(p:List Int):Prop:=(X=.nils/\p=[])\/X=slF 1 (p.map (PV.int .i64))
section
variable{X:PV}{p:List Int}(h:KI X p)
include h
theorem KI.fr:X.free=true:=by rcases h with⟨rfl,_⟩ | rfl<;>rfl
theorem KI.fl:X.flat=true:=by rcases h with⟨rfl,_⟩ | rfl<;>rfl
theorem KI.di:X.Ag=X:=by rcases h with⟨rfl,_⟩ | rfl<;>rfl
theorem KI.mv:AQ .mv [X]=some [some X]:=Lb h.fr h.di
theorem KI.bx:AQ .bx [X]=some [some (.vptr X)]:=nD h.fl h.di
theorem KI.ld{a:Sto}:Dq (.ld 1 false) [.vptr X] a=some [some X]:=Xe (n:=1) (ag:=false) (by rcases h with⟨rfl,_⟩ | rfl<;>rfl) h.fr h.di
theorem KI.len:AQ (.len false) [X]=some [some (N p.length)]:=by
 rcases h with⟨rfl,rfl⟩ | rfl
 ·rfl
 ·exact JE (z:=1) (PV.int .i64) p
theorem KI.idx{j:Nat}{i:Int}(hi:p[j]?=some i):AQ (.idx 1) [X,N j]=some [some (.vptr (I i))]:=by
 rcases h with⟨rfl,rfl⟩ | rfl
 ·cases hi
 ·exact Hf (z:=1) (f:=PV.int .i64) j hi
theorem KI.tk{k:Nat}(a:k<=p.length):∃Y,AQ (.vsl 1 false true) [X,N k]=some [some Y]/\KI Y (p.take k):=by
 rcases h with⟨rfl,rfl⟩ | rfl
 ·obtain rfl:k=0:=by simpa using a
  exact⟨_,rfl,.inl ⟨rfl,rfl⟩⟩
 ·refine⟨slF 1 ((p.take k).map (PV.int .i64)),?_,.inr rfl⟩
  show(if 1=1 then(if(0:Int)<=(k:Int)/\(k:Int)<=((p.map (PV.int .i64)).length:Nat) then some (0,(k:Int).toNat) else none).map (fun(l,h)=>[some (PV.slice false 1 (((p.map (PV.int .i64)).drop l).take (h - l)))]) else none)=_
  rw[if_pos rfl,if_pos ⟨am,by rw[Ap];omega⟩]
  simp
theorem KI.dr{k:Nat}(a:k<=p.length):∃Y,AQ (.vsl 1 true false) [X,N k]=some [some Y]/\KI Y (p.drop k):=by
 rcases h with⟨rfl,rfl⟩ | rfl
 ·obtain rfl:k=0:=by simpa using a
  exact⟨_,rfl,.inl ⟨rfl,rfl⟩⟩
 ·refine⟨slF 1 ((p.drop k).map (PV.int .i64)),?_,.inr rfl⟩
  show(if 1=1 then(if(0:Int)<=(k:Int)/\(k:Int)<=((p.map (PV.int .i64)).length:Nat) then some ((k:Int).toNat,(p.map (PV.int .i64)).length) else none).map (fun(l,h)=>[some (PV.slice false 1 (((p.map (PV.int .i64)).drop l).take (h - l)))]) else none)=_
  rw[if_pos rfl,if_pos ⟨am,by rw[Ap];omega⟩]
  simp[List.map_drop];exact Cn (by simp)
end
def BWA:Rn 49 a49:=rn
section
variable{T:Tr}{X:PV}{p:List Int}{i:Int}{j:Nat}
def g49{U:Tr}(a:KI X p)(h:LL a49 0 [(2,some T.pv),(4,some (.agg [I 0,.str [],I 0,I 0,.nils])),(8,some X),(9,some (N p.length)),(10,some (N 0))] [] (.exit 0) [(2,some U.pv),(4,some (.agg [I 0,.str [],I 0,I 0,.nils]))] []):EvE 49 [T.pv,X] (.tuple [U.pv,.bool true]):=
 Br BWA [sp 0 (aJ T),sp 2 a.mv,sp 0 a.len,sl 1 [2,4,8,9,10] h,sp 0 (EQ U),sp 0 (IA (I 0) (.str []) (I 0) (I 0) .nils U)] (by simp[Et,CX,PV.Fz]:(FE [(4,some U.pv),(5,some (.bool true))] [(4,some 5),(5,none)]).bind CX=some (.tuple [U.pv,.bool true]))
def g49f(a:KI X p)(h:LL a49 0 [(2,some T.pv),(4,some (.agg [I 0,.str [],I 0,I 0,.nils])),(8,some X),(9,some (N p.length)),(10,some (N 0))] [] .ret [(4,some (.agg [I 0,.str [],I 0,I 0,.nils])),(5,some (.bool false))] []):EvE 49 [T.pv,X] (.tuple [.agg [I 0,.str [],I 0,I 0,.nils],.bool false]):=
 Br BWA [sp 0 (aJ T),sp 2 a.mv,sp 0 a.len,sl 1 [2,4,8,9,10] h] (by simp[Et,CX,PV.Fz]:(FE [(4,some (.agg [I 0,.str [],I 0,I 0,.nils])),(5,some (.bool false))] [(4,some 5),(5,none)]).bind CX=some (.tuple [.agg [I 0,.str [],I 0,I 0,.nils],.bool false]))
def BZQ{K:Tr}{i:Nat}(d:KI X p)(w:T.wf)(h:j<p.length)(hi:p[j]?=some (i:Int))(f:T.kids[i]?=some K)(g:i<T.kids.length)(l:j<1000000000){e:CE}{a:FF}{b:Sto}(c:LL a49 0 [(2,some K.pv),(4,some (.agg [I 0,.str [],I 0,I 0,.nils])),(8,some X),(9,some (N p.length)),(10,some (N (j+1)))] [] e a b):LL a49 0 [(2,some T.pv),(4,some (.agg [I 0,.str [],I 0,I 0,.nils])),(8,some X),(9,some (N p.length)),(10,some (N j))] [] e a b:=
 BC [2,4,8,9,10] [sp 0 (AZ .i64 (show(j:Int) < (p.length:Int) by omega)),sp 1 (d.idx hi),sp 3 (Bh .i64 (show ¬(i:Int) < 0 by omega)),sq 3 (QG T 2),sq 0 (EZ w),sq 0 (Im .i64 (show ¬(i:Int)>=(T.kids.length:Int) by omega)),sp 3 (QG T 2),sp 1 (EL i w f),st 0 (Q (AL K)),sp 0 (Iz T K),sp 0 (AO j 1 am)] c
def g49a(a:KI X p)(w:T.wf)(b:j<p.length)(hi:p[j]?=some i)(h:i<0):LL a49 0 [(2,some T.pv),(4,some (.agg [I 0,.str [],I 0,I 0,.nils])),(8,some X),(9,some (N p.length)),(10,some (N j))] [] .ret [(4,some (.agg [I 0,.str [],I 0,I 0,.nils])),(5,some (.bool false))] []:=
 Bw [4,5] [sp 0 (AZ .i64 (show(j:Int) < (p.length:Int) by omega)),sp 1 (a.idx hi),sp 3 (AZ .i64 h)]
def g49b(a:KI X p)(w:T.wf)(c:j<p.length)(hi:p[j]?=some i)(h:¬i<0)(b:i>=(T.kids.length:Int)):LL a49 0 [(2,some T.pv),(4,some (.agg [I 0,.str [],I 0,I 0,.nils])),(8,some X),(9,some (N p.length)),(10,some (N j))] [] .ret [(4,some (.agg [I 0,.str [],I 0,I 0,.nils])),(5,some (.bool false))] []:=
 Bw [4,5] [sp 0 (AZ .i64 (show(j:Int) < (p.length:Int) by omega)),sp 1 (a.idx hi),sp 3 (Bh .i64 h),sq 3 (QG T 2),sq 0 (EZ w),sq 0 (Gi .i64 b)]
def g49x(a:¬j<p.length):LL a49 0 [(2,some T.pv),(4,some (.agg [I 0,.str [],I 0,I 0,.nils])),(8,some X),(9,some (N p.length)),(10,some (N j))] [] (.exit 0) [(2,some T.pv),(4,some (.agg [I 0,.str [],I 0,I 0,.nils]))] []:=
 Bw [2,4] [sp 0 (Bh .i64 (show ¬(j:Int) < (p.length:Int) by omega))]
end
def Tr.at_:Tr->List Int->Option Tr
 |T,[]=>some T
 |T,i::p=>if i<0 then none else match T.kids[i.toNat]? with
  |some K=>K.at_ p
  |none=>none
def Xo{X:PV}{p:List Int}(c:KI X p)(q:p.length<1000000000):∀(r:List Int) (j:Nat) (T:Tr),p.drop j=r->(∀x∈T.nds,x.wf)->
  (∃U,T.at_ r=some U/\U∈T.nds/\LL a49 0 [(2,some T.pv),(4,some (.agg [I 0,.str [],I 0,I 0,.nils])),(8,some X),(9,some (N p.length)),(10,some (N j))] [] (.exit 0) [(2,some U.pv),(4,some (.agg [I 0,.str [],I 0,I 0,.nils]))] []) \/
  (T.at_ r=none/\LL a49 0 [(2,some T.pv),(4,some (.agg [I 0,.str [],I 0,I 0,.nils])),(8,some X),(9,some (N p.length)),(10,some (N j))] [] .ret [(4,some (.agg [I 0,.str [],I 0,I 0,.nils])),(5,some (.bool false))] [])
 |[],j,T,h,w=>.inl ⟨T,rfl,by rw[Eo];exact AV ..,g49x (nu h)⟩
 |i::r,j,T,h,w=>by
  obtain⟨hi,f,u⟩:=AzI h;have d:=w T (by rw[Eo];exact AV ..)
  rw[Tr.at_];by_cases e:i<0
  ·rw[if_pos e];exact .inr ⟨rfl,g49a c d f hi e⟩
  ·rw[if_neg e];obtain⟨n,rfl⟩:∃n:Nat,i=n:=⟨i.toNat,am⟩
   cases k:T.kids[(n:Int).toNat]? with
   |none=>
    refine .inr ⟨rfl,g49b c d f hi e ?_⟩
    rw[List.getElem?_eq_none_iff] at k
    simp at k;omega
   |some K=>
    have a:T.kids[n]?=some K:=by simpa using k
    have t:=Am a;have o:∀x∈K.nds,x∈T.nds:=λx l=>by rw[Eo];exact AP _ (Ja t x l)
    have m:=(Ad.1 a).1;rcases Xo c q r (j+1) K u (λx l=>w x (o x l)) with⟨U,g,s,L⟩ | ⟨g,L⟩
    ·exact .inl ⟨U,g,o U s,BZQ c d f hi a m am L⟩
    ·exact .inr ⟨g,BZQ c d f hi a m am L⟩
def w49{X:PV}{p:List Int}(a:KI X p)(c:p.length<1000000000){T:Tr}(w:∀x∈T.nds,x.wf):
  (∃U,T.at_ p=some U/\U∈T.nds/\E 49 [T.pv,X] [] (.tuple [U.pv,.bool true]) [])\/(T.at_ p=none/\E 49 [T.pv,X] [] (.tuple [.agg [I 0,.str [],I 0,I 0,.nils],.bool false]) []):=by
 rcases Xo a c p 0 T rfl w with⟨U,b,d,L⟩ | ⟨b,L⟩
 ·exact .inl ⟨U,b,d,g49 a L⟩
 ·exact .inr ⟨b,g49f a L⟩
end Go.Abs.Z

namespace Go.Abs.Z
open Go.Proofs Go.RowKit Go.ChangeShapes Go.WideShapes Go.ChangeAt
open Go.Proofs.YtgkkkgbknfhbaaaGreatDoor
def gV{H:Type}:∀(es:List (DataW H)),es.length<=Rows.uptoBulkAll es
 |[]=>Ca _
 |e::es=>by
  have:=gV es
  have h1:1<=Rows.uptoBulk e:=by
   unfold Rows.uptoBulk
   split<;>omega
  simp only[Rows.uptoBulkAll,Ah];omega
section
variable{H:Type}{enc:TypeId×Value->H}{W:World}{base:Nat}{sp:Nat->Bool}{held:Bool}
def nZ{fuel:Nat}{v:Value}{y:DataW H×List MemPlace}(h:DataW.trod enc Tryz.prog W base sp held fuel 25 [v]=some y):
  ∃(pv:PV) (l:List Int),KI pv l/\Rep (IW W) W v pv/\l.length<=Rows.uptoBulk y.1:=by
 rcases DataW.trod_slice Tryz.underlying25 h with⟨hkv,rfl⟩ | ⟨a,len,cap,elems,rest,m,rfl,hkv,rfl,_,hcap,_,hlen,hel,_,_⟩
 ·cases hkv;exact⟨.nils,[],.inl ⟨rfl,rfl⟩,.nils,Ca _⟩
 ·cases hkv
  have hall:∀i,i<len->∃k:Int,W.cells? base (a.add (i * 1)) 1=some [.int .i64 k]:=by
   intro i hi;have hi':=hel i hi;rw[n3] at hi';have hsome:elems[i]?=some (elems[i]'am):=Af am
   rw[hsome] at hi';obtain⟨cs',hcs,htr⟩:=AB.1 hi';obtain⟨k,h0,_⟩:=DataW.trod_int Tryz.underlying3 htr;subst h0;exact⟨k,hcs⟩
  obtain⟨ks,hkl,hks⟩:=ZZ len hall;refine⟨.slice false 1 (ks.map (PV.int .i64)),ks,.inr rfl,?_,?_⟩
  ·refine WJ (by rw[Ap,hkl]) hcap (by decide) (λi e he=>?_) λi e j p he hp=>?_
   ·rw[Al] at he;obtain⟨k,_,rfl⟩:=Ac.1 he;rfl
   ·rw[Al] at he;obtain⟨k,hk,rfl⟩:=Ac.1 he;have hc:=nA (hks i k hk)
    match j,hp with
    |0,hp=>cases hp;exact⟨_,(hc 0 _ rfl).1,.int _ _,(hc 0 _ rfl).2.1,(hc 0 _ rfl).2.2⟩
    |j+1,hp=>simp[PV.cells] at hp
  ·have:=gV (elems.map (·.1));rw[Ap] at this;simp only[Rows.uptoBulk];omega
def nX{v:Value}{d:DataW H}{p:List MemPlace}(hna:∀cs,v≠.agg cs)(h:DataW.Trod enc Tryz.prog W base sp held 25 v d p):
  ∃(pv:PV) (l:List Int),KI pv l/\Rep (IW W) W v pv/\l.length<=Rows.uptoBulk d:=by
 obtain⟨n,hn⟩:=h
 have e:v.cells.toList=[v]:=by
  cases v with
  |agg cs=>exact absurd rfl (hna cs)
  |_=>rfl
 rw[e] at hn;exact nZ hn
end
def jl:Tryz.prog.readableRec 25=true:=by kernel_rfl
def BjW:25<Tryz.prog.types.size:=of_decide_eq_true (by kernel_rfl)
end Go.Abs.Z

namespace Go.Abs.Z
open Go.Proofs Go.RowKit
abbrev Z5:PV:=.agg [I 0,.str [],I 0,I 0,.nils]
def AK6:(([]:List PV).all PV.free&&([]:List PV).all PV.flat)=true/\([]:List PV).map PV.Ag=[]/\shM.flat=true/\shM.Ag=shM:=by
 refine⟨rfl,rfl,by kernel_rfl,?_⟩
 have h:=jc;generalize shM=M at h ⊢;unfold shB at h
 split at h
 ·rfl
 ·cases h
def AKD(n:Nat){r:PV}(b:r.free=true)(a:r.Ag=r):(FE [(n,some r)] [(n,none)]).bind CX=some r:=by
 rw[Et,lV];simp[FQ,ok_none,b,a,CX]
def av{d g n j:Nat}(h:j<n):AQ (.idx 5) [.arr d g 0 n 5,N j]=some [some (.aptr d g 5 j 0)]:=by
 show(if 5=5/\(0:Int)<=(j:Int)/\(j:Int) < (n:Nat) then some (PV.aptr d g 5 (0+(j:Int).toNat) 0) else none).map _=_
 rw[if_pos ⟨rfl,am,am⟩,EH,BB]
 rfl
def BVV{n:Nat}(h:0<n)(a:n<=1000000):Bt pur run (.w (.appZ 5 Z5)) [.nils,N n] [] [some (.arr 0 0 0 n 5)] [[.arrv 0 5 (List.replicate n Z5)]]:=by
 refine⟨0,λk _=>?_⟩
 show(if 0<(n:Int)/\(n:Int)<=Bo/\_ then some ([some (PV.arr 0 0 0 (n:Int).toNat 5)],[[PV.arrv 0 5 (List.replicate (n:Int).toNat Z5)]]) else none)=_
 rw[if_pos ⟨am,by unfold Bo;omega,rfl⟩,EH]
def qL(d g n:Nat):AQ (.vsl 5 false true) [.arr d g 0 n 5,I 0]=some [some (.arr d g 0 0 5)]:=by
 show(if 5=5 then(if(0:Int)<=0/\(0:Int)<=(n:Nat) then some (0,(0:Int).toNat) else none).map (fun(l,h)=>[some (PV.arr d g (0+l) (h - l) 5)]) else none)=_
 rw[if_pos rfl,if_pos ⟨am,am⟩];rfl
def AZM:Rn 258 a258:=rn
def BY5:Rn 197 qi:=rn
def BWF:Rn 259 a259:=rn
def BY4:Rn 198 a198:=rn
def AZV:Rn 143 a143:=rn
def BY7:Rn 142 a142:=rn
section
variable{σ τ ρ F:Sto}{X R K V R' Y:PV}{n j m k:Nat}{e:CE}{D:FF}{T U:Tr}{p:List Int}{z y:Int}
def BZG:E 258 [.nils] σ .nils σ:=
 rule AZM []
def BZH{r:PV}(c:BM .mv [X] X)(f:BM (.snil false) [X,.nils] (.bool false))(d:Bt pur run (.w (.Gj 5)) [.empt,X] σ [some r] τ)(b:r.free=true)(a:r.Ag=r):E 258 [X] σ r τ:=
 Br AZM [sp 1 c,sp 0 f,sp 2 c,st 0 d,sp 0 (Lb b a)] (AKD 2 b a)
def AUD(d:BM .mv [X] X)(f:Bt pur run (.w (.call 258)) [X] σ [some R] τ)(b:R.free=true)(a:R.Ag=R)(c:BM (.len false) [R] (N n))(L:LL qi 0 [(3,some R),(8,some (N n)),(9,some (N 0))] τ (.exit 0) [(3,some R)] ρ):E 197 [X] σ R ρ:=
 Br BY5 [sp 1 d,st 0 f,sp 0 (Lb b a),sp 0 (Lb b a),sp 0 c,sl 1 [3,8,9] L,sp 0 (Lb b a),sp 0 (Lb b a)] (AKD 2 b a)
def xq(h:¬j<n):LL qi 0 [(3,some R),(8,some (N n)),(9,some (N j))] σ (.exit 0) [(3,some R)] σ:=
 Bw [3] [sp 0 (Bh .i64 (x:=(j:Int)) (y:=(n:Int)) am)]
def BZK{d g:Nat}(h:j<n)(i:j<1000000000)(f:Dq (.ld 1 false) [.aptr d g 5 j 4] σ=some [some K])(c:Bt pur run (.w (.callz 197)) [K] σ [some K] τ)(b:Bt pur run (.w (.st 1)) [.aptr d g 5 j 4,K] τ [] τ)(a:LL qi 0 [(3,some (.arr d g 0 n 5)),(8,some (N n)),(9,some (N (j+1)))] τ e D F):LL qi 0 [(3,some (.arr d g 0 n 5)),(8,some (N n)),(9,some (N j))] σ e D F:=
 BC [3,8,9] [sp 0 (AZ .i64 (x:=(j:Int)) (y:=(n:Int)) am),sp 7 (av (d:=d) (g:=g) h),st 1 (QS σ f),st 0 c,sp 0 (av (d:=d) (g:=g) h),st 1 b,sp 0 (AO j 1 am)] a
def k259(h:0<n)(a:n<=1000000):E 259 [.nils,N n] [] (.arr 0 0 0 0 5) [[.arrv 0 5 (List.replicate n Z5)]]:=
 rule BWF [sp 2 (Bh .i64 (x:=(n:Int)) (y:=0) am),sp 7 (Fb n 0 am am),sp 2 (CF .i64 (x:=(n:Int)) (y:=0) am),st 6 (BVV h a),sp 2 (qL 0 0 n)]
def xm(h:j<3)(hi:BM (.idx 1) [X,N j] (.vptr V))(c:Dq (.ld 1 false) [.vptr V] []=some [some V])(b:BM .mv [V] V)(d:BM (.len false) [V] (N k))(f:m+k<1000000000)(a:LL a198 0 [(0,some X),(3,some (N (m+k))),(9,some X),(10,some (N 3)),(11,some (N (j+1)))] [] e D F):LL a198 0 [(0,some X),(3,some (N m)),(9,some X),(10,some (N 3)),(11,some (N j))] [] e D F:=
 BC [0,3,9,10,11] [sp 0 (AZ .i64 (x:=(j:Int)) (y:=(3:Int)) am),sp 1 hi,st 0 (Q c),sp 0 b,sp 1 b,sp 0 d,sp 0 (AO m k am am),sp 2 (Bh .i64 (x:=((m+k:Nat):Int)) (y:=0) am),sp 1 (AO j 1 am)] a
def BZJ:LL a198 0 [(0,some X),(3,some (N m)),(9,some X),(10,some (N 3)),(11,some (N 3))] [] (.exit 0) [(0,some X),(3,some (N m))] []:=
 Bw [0,3] [sp 0 (Bh .i64 (x:=(3:Int)) (y:=(3:Int)) am)]
def xk(h:j<3)(hi:BM (.idx 1) [X,N j] (.vptr V))(f:Dq (.ld 1 false) [.vptr V] σ=some [some V])(c:BM .mv [V] V)(d:BM .mv [R] R)(g:Bt pur run (.w (.Gj 5)) [R,V] σ [some R'] τ)(b:BM .mv [R'] R')(a:LL a198 1 [(6,some R'),(25,some X),(26,some (N 3)),(27,some (N (j+1)))] τ e D F):LL a198 1 [(6,some R),(25,some X),(26,some (N 3)),(27,some (N j))] σ e D F:=
 BC [6,25,26,27] [sp 0 (AZ .i64 (x:=(j:Int)) (y:=(3:Int)) am),sp 1 hi,st 0 (QS σ f),sp 0 c,sp 0 d,sp 0 c,st 0 g,sp 0 b,sp 0 (AO j 1 am)] a
def BZI:LL a198 1 [(6,some R),(25,some X),(26,some (N 3)),(27,some (N 3))] σ (.exit 2) [(6,some R)] σ:=
 Bw [6] [sp 0 (Bh .i64 (x:=(3:Int)) (y:=(3:Int)) am)]
def k198(c:BM .mv [X] X)(d:BM (.len false) [X] (N 3))(L:LL a198 0 [(0,some X),(3,some (N 0)),(9,some X),(10,some (N 3)),(11,some (N 0))] [] (.exit 0) [(0,some X),(3,some (N n))] [])(h:Bt pur run (.w (.call 259)) [.nils,N n] [] [some R] σ)(g:BM .mv [R] R)(f:LL a198 1 [(6,some R),(25,some X),(26,some (N 3)),(27,some (N 0))] σ (.exit 2) [(6,some R')] τ)(b:R'.free=true)(a:R'.Ag=R'):E 198 [X] [] R' τ:=
 Br BY4 [sp 2 c,sp 0 d,sl 1 [0,3,9,10,11] L,st 1 h,sp 0 g,sp 0 c,sp 0 d,sl 1 [6,25,26,27] f,sp 0 (Lb b a),sp 0 (Lb b a)] (AKD 2 b a)
def BZM{A C:PV}(a:KI X p)(d:p=[])(o:BM .mv [Y] Y)(g:BM (.vsl 5 false true) [T.kp,I z] A)(f:BM (.vsl 5 true false) [T.kp,I y] C)(h:BM (.bsl 1) [A,Y,C] (.slice true 1 [A,Y,C]))(l:Bt pur run (.w (.call 198)) [.slice true 1 [A,Y,C]] [] [some R] σ)(c:Bt pur run (.w (.callz 197)) [R] σ [some K] τ)(b:BM (.stf 5 1) [.lref 5 4,T.pv,K] U.pv)(i:Bt pur run (.w (.ldz 5 4)) [U.pv] τ [some U.pv,some U.pv] τ):E 143 [T.pv,X,I z,I y,Y] [] U.pv τ:=
 Br AZV [sp 0 (aJ T),sp 1 a.mv,sp 0 a.len,sp 0 (Bz .i64 (show(p.length:Int)=0 by rw[d];rfl)),sp 2 (QG T 5),sp 1 g,sp 0 o,sp 1 (QG T 5),sp 1 f,sp 0 h,st 0 l,st 0 c,sp 1 b,st 0 i,sp 0 (IA (I 0) (.str []) (I 0) (I 0) .nils U)] (by simp[Et,CX]:(FE [(10,some U.pv)] [(10,some 5)]).bind CX=some U.pv)
def BZL{V W:Tr}{q:Int}{P1 S TA:PV}(a:KI X p)(o:p≠[])(b:p[0]?=some q)(f:BM .mv [Y] Y)(s:Bt pur run (.w (.call 197)) [T.kp] [] [some R] σ)(h:BM (.stf 5 1) [.lref 5 4,T.pv,R] TA)(c:BM (.ldf 5 1 false) [.lref 5 4,TA] R)(hi:BM (.idx 5) [R,I q] P1)(d:Dq (.ld 5 true) [P1] σ=some [some U.pv])(i:BM (.vsl 1 true false) [X,I 1] S)(r:Bt pur run (.c 143) [U.pv,S,I z,I y,Y] σ [some V.pv] σ)(g:Bt pur run (.w (.st 5)) [P1,V.pv] σ [] τ)(l:Bt pur run (.w (.ldz 5 4)) [TA] τ [some W.pv,some W.pv] ρ):E 143 [T.pv,X,I z,I y,Y] [] W.pv ρ:=
 Br AZV [sp 0 (aJ T),sp 1 a.mv,sp 0 a.len,sp 0 (Bb .i64 (show(p.length:Int)≠0 by rw[Ne,Int.natCast_eq_zero,Ak];exact o)),sp 2 (QG T 5),st 0 s,sp 1 h,sp 1 c,sp 0 a.mv,sp 0 (a.idx (j:=0) b),sp 2 c,sp 0 a.mv,sp 0 (a.idx (j:=0) b),sp 1 hi,st 0 (QS σ d),sp 0 a.mv,sp 0 i,sp 2 f,st 0 r,sp 0 hi,st 0 g,st 0 l,sp 0 (IA (I 0) (.str []) (I 0) (I 0) .nils W)] (by simp[Et,CX]:(FE [(10,some W.pv)] [(10,some 5)]).bind CX=some W.pv)
def BZN{k:Int}{v G:PV}{b:Bool}(c:BM (.look (.agg [.nilf,.nils,.nilf,I 0]) false true) [shM,I k] v)(d:BM (.fld 2 1 false) [v] G)(a:BM (.bin .neq 2) [G,.nilf] (.bool b)):EvE 142 [I k] (.bool b):=
 rule BY7 [st 1 (oC e118 AK6),sp 1 c,sp 0 d,sp 0 a]
end
section
variable{K:PV}{ks:List Tr}(h:KV K ks)
include h
theorem KV.fr:K.free=true:=by rcases h with⟨rfl,_⟩ | rfl<;>rfl
theorem KV.fl:K.flat=true:=by rcases h with⟨rfl,_⟩ | rfl<;>rfl
theorem KV.di:K.Ag=K:=by rcases h with⟨rfl,_⟩ | rfl<;>rfl
theorem KV.mv:AQ .mv [K]=some [some K]:=Lb h.fr h.di
theorem KV.ld{a:Sto}:Dq (.ld 1 false) [.vptr K] a=some [some K]:=Xe (n:=1) (ag:=false) (by rcases h with⟨rfl,_⟩ | rfl<;>rfl) h.fr h.di
theorem KV.len:AQ (.len false) [K]=some [some (N ks.length)]:=by
 rcases h with⟨rfl,rfl⟩ | rfl
 ·rfl
 ·rw[Tr.Du];exact JE (z:=5) Tr.pv ks
theorem KV.app{a:Sto}:I7 5 a K=some (Tr.pvs ks):=by
 rcases h with⟨rfl,rfl⟩ | rfl
 ·rfl
 ·show(if 5=5 then some (Tr.pvs ks) else none)=_
  exact if_pos rfl
theorem KV.tk{z:Nat}(a:z<=ks.length):∃A,AQ (.vsl 5 false true) [K,N z]=some [some A]/\KV A (ks.take z):=by
 rcases h with⟨rfl,rfl⟩ | rfl
 ·obtain rfl:z=0:=by simpa using a
  exact⟨_,rfl,.inl ⟨rfl,rfl⟩⟩
 ·refine⟨slF 5 (Tr.pvs (ks.take z)),?_,.inr rfl⟩
  rw[Tr.Du,Tr.Du];show(if 5=5 then(if(0:Int)<=(z:Int)/\(z:Int)<=((ks.map Tr.pv).length:Nat) then some (0,(z:Int).toNat) else none).map (fun(l,h)=>[some (PV.slice false 5 (((ks.map Tr.pv).drop l).take (h - l)))]) else none)=_
  rw[if_pos rfl,if_pos ⟨am,by rw[Ap];omega⟩]
  simp
theorem KV.dr{z:Nat}(a:z<=ks.length):∃A,AQ (.vsl 5 true false) [K,N z]=some [some A]/\KV A (ks.drop z):=by
 rcases h with⟨rfl,rfl⟩ | rfl
 ·obtain rfl:z=0:=by simpa using a
  exact⟨_,rfl,.inl ⟨rfl,rfl⟩⟩
 ·refine⟨slF 5 (Tr.pvs (ks.drop z)),?_,.inr rfl⟩
  rw[Tr.Du,Tr.Du];show(if 5=5 then(if(0:Int)<=(z:Int)/\(z:Int)<=((ks.map Tr.pv).length:Nat) then some ((z:Int).toNat,(ks.map Tr.pv).length) else none).map (fun(l,h)=>[some (PV.slice false 5 (((ks.map Tr.pv).drop l).take (h - l)))]) else none)=_
  rw[if_pos rfl,if_pos ⟨am,by rw[Ap];omega⟩]
  simp[List.map_drop];exact Cn (by simp)
theorem KV.cf:(K.cells.length==1&&K.flat)=true:=by rcases h with⟨rfl,_⟩ | rfl<;>rfl
end
def IB(ks:List Tr):(Tr.pvs ks).length=ks.length:=by rw[Tr.Du,Ap]
def ZC(ks:List Tr):(Tr.pvs ks).all PV.ones=true/\(Tr.pvs ks).all PV.okc=true/\(Tr.pvs ks).map PV.Ag=Tr.pvs ks/\(Tr.pvs ks).all (λe=>e.flat&&e.cells.all PV.flat)=true:=by
 rw[Tr.Du];simp only[List.all_map,List.map_map,Au,Function.comp];refine⟨λT _=>T.Pi,λT _=>T.Tj,FN λT _=>T.Ef,λT _=>?_⟩
 rw[T.Pj,Da,T.He];obtain⟨k,t,a,e,n,ks⟩:=T;cases n<;>rfl
structure Sh(σ:Sto)(x:PV)(ks:List Tr):Prop where
 mv:AQ .mv [x]=some [some x]
 fr:x.free=true
 di:x.Ag=x
 sn:AQ (.snil false) [x,.nils]=some [some (.bool false)]
 ap:I7 5 σ x=some (Tr.pvs ks)
def AkF(a:Sto)(ks:List Tr):Sh a (slF 5 (Tr.pvs ks)) ks:=⟨rfl,rfl,rfl,rfl,(if_pos rfl:(if 5=5 then some (Tr.pvs ks) else none)=_)⟩
abbrev ar(d n:Nat):PV:=.arr d 0 0 n 5
def jg{A e:Sto}{g m:Nat}{es:List PV}(a:m<=es.length):JM (A++[.arrv g 5 es]::e) A.length g 0 m 5=some (es.take m):=by
 unfold JM;rw[Aq (Ai _),E5,EN]
 show(match(if g=g/\5=5 then some es else none) with
  |some es=>if 0+m<=es.length then some ((es.drop 0).take m) else none
  |none=>none)=_
 rw[if_pos ⟨rfl,rfl⟩];show(if 0+m<=es.length then some ((es.drop 0).take m) else none)=_
 rw[if_pos am,DZ]
def yE{a:Sto}{x:PV}{ks:List Tr}(h:Sh a x ks)(c:ks≠[])(f:ks.length<=1000000):Bt pur run (.w (.Gj 5)) [.empt,x] a [some (ar a.length ks.length)] (a++[[.arrv 0 5 (Tr.pvs ks)]]):=by
 refine⟨0,λn _=>?_⟩
 show(match I7 5 a x with | some xs=>Gj 5 .empt xs a | none=>none)=_
 rw[h.ap];obtain⟨e,b,d,_⟩:=ZC ks;show(if(Tr.pvs ks).isEmpty then _ else if(Tr.pvs ks).length<=Bo/\(Tr.pvs ks).all PV.ones/\(Tr.pvs ks).all PV.okc then some ([some (PV.arr a.length 0 0 (Tr.pvs ks).length 5)],a++[[PV.arrv 0 5 ((Tr.pvs ks).map PV.Ag)]]) else none)=_
 rw[if_neg (by rw[DF,Tr.Du,List.map_eq_nil_iff];exact c),if_pos ⟨by rw[IB];unfold Bo;omega,e,b⟩,d,IB]
def e258{a:Sto}{x:PV}{ks:List Tr}(h:Sh a x ks)(b:ks≠[])(c:ks.length<=1000000):E 258 [x] a (ar a.length ks.length) (a++[[.arrv 0 5 (Tr.pvs ks)]]):=BZH h.mv h.sn (yE h b c) rfl rfl
def CZ(U:Tr):Prop:=∀a:Sto,∃d:Sto,Bt pur run (.w (.callz 197)) [U.kp] a [some U.kp] (a++d)
def aN{A e:Sto}{x:List PV}:(A++x::e)[A.length]?=some x:=by
 rw[Aq (Ai _),E5,EN]
def set_mid{A e:Sto}{x y:List PV}:(A++x::e).set A.length y=A++y::e:=by
 rw[List.set_append_right _ _ (Ai _),E5,List.set_cons_zero]
def Az2{A e:Sto}{ks:List Tr}{U:Tr}{j:Nat}(b:ks[j]?=some U):Dq (.ld 1 false) [.aptr A.length 0 5 j 4] (A++[.arrv 0 5 (Tr.pvs ks)]::e)=some [some U.kp]:=by
 unfold Dq;simp only[aN,Jl,if_true,and_self,Tr.Du,Al,b,AJ];obtain⟨k,t,a,e,n,us⟩:=U;cases n<;>rfl
def Az1{A e:Sto}{ks:List Tr}{U:Tr}{j:Nat}(b:ks[j]?=some U):Dq (.ld 5 true) [.aptr A.length 0 5 j 0] (A++[.arrv 0 5 (Tr.pvs ks)]::e)=some [some U.pv]:=by
 unfold Dq;simp only[aN,Jl,if_true,and_self,Tr.Du,Al,b,AJ];obtain⟨k,t,a,e,n,us⟩:=U;cases n<;>rfl
def zC{A e:Sto}{ks:List Tr}{U:Tr}{j:Nat}(b:ks[j]?=some U):Bt pur run (.w (.st 1)) [.aptr A.length 0 5 j 4,U.kp] (A++[.arrv 0 5 (Tr.pvs ks)]::e) [] (A++[.arrv 0 5 (Tr.pvs ks)]::e):=by
 refine⟨0,λn _=>?_⟩
 have d:(ks.map Tr.pv).set j U.pv=ks.map Tr.pv:=by
  apply Ee;intro i;rw[EG];split
  ·rename_i h;subst h;rw[Al,b];simp[(Ad.1 b).1]
  ·rfl
 have c:(upd U.pv 4 U.kp.Ag)=some U.pv/\U.kp.cells.length=1/\U.kp.okc=true/\U.kp.ones=true:=by
  obtain⟨k,t,a,e,n,us⟩:=U;cases n<;>exact⟨rfl,rfl,rfl,rfl⟩
 show Fj pur (run n) (.st 1) [.aptr A.length 0 5 j 4,U.kp] _=_;unfold Fj;simp only[aN,Jl,if_true,and_self,Tr.Du,Al,b,AJ,c.1,c.2,d,set_mid]
def ny{A:Sto}{ks:List Tr}(i:ks.length<=1000000)(b:∀U∈ks,CZ U):∀(r:List Tr) (j:Nat) (e:Sto),ks.drop j=r->
  ∃d,LL qi 0 [(3,some (ar A.length ks.length)),(8,some (N ks.length)),(9,some (N j))] (A++[.arrv 0 5 (Tr.pvs ks)]::e) (.exit 0) [(3,some (ar A.length ks.length))] (A++[.arrv 0 5 (Tr.pvs ks)]::(e++d))
 |[],j,e,h=>⟨[],by rw[Az];exact xq (by rw[AY] at h;omega)⟩
 |U::r,j,e,h=>by
  obtain⟨g,f⟩:=Ma h;have k:=(Ad.1 g).1;obtain⟨d1,c⟩:=b U (Am g) (A++[.arrv 0 5 (Tr.pvs ks)]::e);rw[AC,Bg] at c;obtain⟨d2,L⟩:=ny i b r (j+1) (e++d1) f;exact⟨d1++d2,by rw[<-AC];exact BZK k am (Az2 g) c (zC g) L⟩
def e197{a:Sto}{x:PV}{ks:List Tr}(h:Sh a x ks)(c:ks≠[])(b:ks.length<=1000000)(e:∀U∈ks,CZ U):∃d,E 197 [x] a (ar a.length ks.length) (a++[.arrv 0 5 (Tr.pvs ks)]::d):=by
 obtain⟨d,L⟩:=ny (A:=a) b e ks 0 [] rfl;exact⟨d,AUD h.mv (FR (e258 h c b) rfl (by rw[Bu,h.di];rfl) (by simp[h.fr]) rfl) rfl rfl rfl L⟩
def AUM{A e:Sto}{ks:List Tr}:o5 (ar A.length ks.length) (A++[.arrv 0 5 (Tr.pvs ks)]::e)=some (slF 5 (Tr.pvs ks),A++[.dead]::e):=by
 unfold o5;simp only[jg (Nat.le_of_eq (IB ks).symm)];rw[<-IB ks,FJ,(ZC ks).2.2.2,if_pos rfl,set_mid]
def AZA{a:Sto}{x:PV}{ks:List Tr}(h:Sh a x ks)(c:ks≠[])(b:ks.length<=1000000)(e:∀U∈ks,CZ U):∃d,Bt pur run (.w (.callz 197)) [x] a [some (slF 5 (Tr.pvs ks))] (a++d):=by
 obtain⟨d,f⟩:=e197 h c b e;exact⟨_,jD f (by rw[Bu,h.di];rfl) (by simp[h.fr]) AUM⟩
mutual
def AZ9:∀U:Tr,(∀x∈U.nds,x.wf/\x.kids.length<=1000000)->CZ U
 |.mk k t a e n ks,h=>by
  intro σ;obtain⟨w,hl⟩:=h _ (by rw[Eo];exact AV ..)
  have hC:=xZ ks λx hx=>h x (by rw[Eo];exact AP _ hx)
  cases n with
  |true=>
   have:ks=[]:=w.1 rfl;exact⟨[],by rw[Az];exact jD (AUD (n:=0) rfl (FR BZG rfl rfl rfl rfl) rfl rfl rfl (xq am)) rfl rfl rfl⟩
  |false=>
   by_cases hk:ks=[]
   ·subst hk;have e1:E 258 [slF 5 []] σ (slF 5 []) σ:=BZH rfl rfl ⟨0,λ_ _=>rfl⟩ rfl rfl
    exact⟨[],by rw[Az];exact jD (AUD (n:=0) rfl (FR e1 rfl rfl rfl rfl) rfl rfl rfl (xq am)) rfl rfl rfl⟩
   ·exact AZA (AkF σ ks) hk hl hC
def xZ:∀ks:List Tr,(∀x∈CV ks,x.wf/\x.kids.length<=1000000)->∀U∈ks,CZ U
 |[],_=>λU h=>by cases h
 |x::xs,h=>λU hU=>by
  rcases AU.1 hU with e | hU
  ·rw[e];exact AZ9 x λy hy=>h y (by rw[CV];exact List.mem_append_left _ hy)
  ·exact xZ xs (λy hy=>h y (by rw[CV];exact List.mem_append_right _ hy)) U hU
end
def row0{g m:Nat}{es:List PV}(a:m<=es.length):JM [[.arrv g 5 es]] 0 g 0 m 5=some (es.take m):=jg (A:=[]) (e:=[]) a
def Ro(g m:Nat)(es:List PV)(ks:List Tr):Prop:=m=ks.length/\m<=es.length/\es.take m=Tr.pvs ks
def UU{V:PV}{ks vs:List Tr}{g m:Nat}{es:List PV}(h:Ro g m es ks)(d:KV V vs)(o:ks.length+vs.length<=1000000):
  ∃b e es',Bt pur run (.w (.Gj 5)) [.arr 0 g 0 m 5,V] [[.arrv g 5 es]] [some (.arr 0 b 0 e 5)] [[.arrv b 5 es']]/\Ro b e es' (ks++vs):=by
 obtain⟨c,a,i⟩:=h;obtain⟨k,l,j,_⟩:=ZC vs;by_cases f:vs=[]
 ·subst f;refine⟨g,m,es,⟨0,λn _=>?_⟩,by rw[Az];exact⟨c,a,i⟩⟩
  show(match I7 5 _ V with | some xs=>Gj 5 (.arr 0 g 0 m 5) xs [[.arrv g 5 es]] | none=>none)=_
  rw[d.app]
  show(if 5=5 then match JM [[.arrv g 5 es]] 0 g 0 m 5 with
   |some es'=>some ([some (PV.arr 0 g 0 m 5)],[[PV.arrv g 5 es]])
   |none=>none else none)=_
  rw[if_pos rfl,row0 a]
 ·refine⟨g+1,m+vs.length,Tr.pvs ks++Tr.pvs vs,⟨0,λn _=>?_⟩,by rw[Ae,c],by rw[Ae,IB,IB,c];omega,?_⟩
  ·show(match I7 5 _ V with | some xs=>Gj 5 (.arr 0 g 0 m 5) xs [[.arrv g 5 es]] | none=>none)=_
   rw[d.app]
   show(if 5=5 then match JM [[.arrv g 5 es]] 0 g 0 m 5 with
    |some es'=>if(Tr.pvs vs).isEmpty then _ else if m+(Tr.pvs vs).length<=Bo/\(Tr.pvs vs).all PV.ones/\(Tr.pvs vs).all PV.okc then some ([some (PV.arr 0 (g+1) 0 (m+(Tr.pvs vs).length) 5)],[[PV.arrv (g+1) 5 (es'++(Tr.pvs vs).map PV.Ag)]]) else none
    |none=>none else none)=_
   rw[if_pos rfl,row0 a];show(if(Tr.pvs vs).isEmpty then _ else _)=_
   rw[if_neg (by rw[DF,Tr.Du,List.map_eq_nil_iff];exact f),if_pos ⟨by rw[IB];unfold Bo;omega,k,l⟩,j,IB,i]
  ·rw[Cn (by rw[Ae,IB,IB];omega),Tr.Du,Tr.Du,Tr.Du,BV]
def e198{A Y C:PV}{us ys cs:List Tr}(b:KV A us)(a:KV Y ys)(c:KV C cs)(l:ys≠[])(n:us.length+ys.length+cs.length<=1000000):∃R e,E 198 [slF 1 [A,Y,C]] [] R e/\Sh e R (us++ys++cs):=by
 have u:0<ys.length:=Cv.2 l
 have g:LL a198 0 [(0,some (slF 1 [A,Y,C])),(3,some (N 0)),(9,some (slF 1 [A,Y,C])),(10,some (N 3)),(11,some (N 0))] [] (.exit 0) [(0,some (slF 1 [A,Y,C])),(3,some (N (0+us.length+ys.length+cs.length)))] []:=
  xm am rfl b.ld b.mv b.len am (xm am rfl a.ld a.mv a.len am (xm am rfl c.ld c.mv c.len am BZJ))
 rw[BB] at g;have m:Bt pur run (.w (.call 259)) [.nils,N (us.length+ys.length+cs.length)] [] [some (.arr 0 0 0 0 5)] [[.arrv 0 5 (List.replicate (us.length+ys.length+cs.length) Z5)]]:=FR (k259 am n) rfl rfl rfl rfl
 have r0:Ro 0 0 (List.replicate (us.length+ys.length+cs.length) Z5) []:=⟨rfl,Ca _,rfl⟩;obtain⟨q,m1,r,p,j⟩:=UU r0 b (by simp;omega)
 obtain⟨t,m2,s,k,o⟩:=UU j a (by simp;omega)
 obtain⟨f,m3,i,h,d⟩:=UU o c (by simp;omega)
 rw[Bn] at d;refine⟨_,_,k198 rfl rfl g m rfl (xk am rfl b.ld b.mv rfl p rfl (xk am rfl a.ld a.mv rfl k rfl (xk am rfl c.ld c.mv rfl h rfl BZI))) rfl rfl,rfl,rfl,rfl,rfl,?_⟩
 show(if 5=5 then JM [[.arrv f 5 i]] 0 f 0 m3 5 else none)=_
 rw[if_pos rfl,row0 d.2.1,d.2.2]
def Tr.kd'(T:Tr)(ks:List Tr):Tr:=.mk T.kind T.text T.st T.en false ks
def uk(T:Tr)(ks:List Tr):AQ (.stf 5 1) [.lref 5 4,T.pv,slF 5 (Tr.pvs ks)]=some [some (T.kd' ks).pv]:=by
 obtain⟨k,t,a,e,n,us⟩:=T;cases n<;>rfl
def AU8(T:Tr)(b:Sto):Bt pur run (.w (.ldz 5 4)) [T.pv] b [some T.pv,some T.pv] b:=by
 refine⟨0,λm _=>?_⟩
 obtain⟨k,t,a,e,n,us⟩:=T;cases n<;>rfl
def zB{A e:Sto}{ks:List Tr}{U:Tr}{j:Nat}(b:ks[j]?=some U)(V:Tr):Bt pur run (.w (.st 5)) [.aptr A.length 0 5 j 0,V.pv] (A++[.arrv 0 5 (Tr.pvs ks)]::e) [] (A++[.arrv 0 5 (Tr.pvs (ks.set j V))]::e):=by
 refine⟨0,λn _=>?_⟩
 have a:(upd U.pv 0 V.pv.Ag)=some V.pv/\V.pv.cells.length=5/\V.pv.okc=true/\V.pv.ones=true:=by
  refine⟨?_,V.Mr,V.Tj,V.Pi⟩
  rw[V.Ef,U.He,V.He];rfl
 show Fj pur (run n) (.st 5) [.aptr A.length 0 5 j 0,V.pv] _=_;unfold Fj;simp only[aN,Jl,if_true,and_self,Tr.Du,Al,b,AJ,a.1,a.2,set_mid,List.map_set]
def AU9(T:Tr)(d:Sto)(ks:List Tr)(n:Nat)(c:ks.length=n):Bt pur run (.w (.ldz 5 4)) [.agg [I T.kind,.str T.text,I T.st,I T.en,ar 0 n]] ([.arrv 0 5 (Tr.pvs ks)]::d) [some (T.kd' ks).pv,some (T.kd' ks).pv] ([.dead]::d):=by
 refine⟨0,λm _=>?_⟩
 have a:=jg (A:=[]) (e:=d) (g:=0) (m:=n) (es:=Tr.pvs ks) (by rw[IB];omega)
 have b:(Tr.pvs ks).take n=Tr.pvs ks:=Cn (by rw[IB];omega)
 rw[b] at a
 show(match JM ([.arrv 0 5 (Tr.pvs ks)]::d) 0 0 0 n 5 with
  |some es=>if es.all (λe=>e.flat&&e.cells.all PV.flat) then(sub (.agg [I T.kind,.str T.text,I T.st,I T.en,slF 5 es]) 0 5 true).map fun(v:PV)=>([some v.Ag,some (PV.agg [I T.kind,.str T.text,I T.st,I T.en,slF 5 es])],([.arrv 0 5 (Tr.pvs ks)]::d:Sto).set 0 [.dead]) else none
  |none=>none)=_
 rw[show JM ([.arrv 0 5 (Tr.pvs ks)]::d) 0 0 0 n 5=some (Tr.pvs ks) from a]
 show(if(Tr.pvs ks).all (λe=>e.flat&&e.cells.all PV.flat)=true then _ else none)=_
 rw[if_pos (ZC ks).2.2.2];rfl
def WdT(T:Tr):Prop:=∀x∈T.nds,x.wf/\x.kids.length<=1000000
def WdT.self{T:Tr}(h:WdT T):T.wf/\T.kids.length<=1000000:=h T (by rw[Eo];exact AV ..)
def WdT.kid{T U:Tr}(h:WdT T)(b:U∈T.kids):WdT U:=λx a=>h x (by rw[Eo];exact AP _ (Ja b x a))
def x8{ks:List Tr}(h:∀U∈ks,WdT U):∀U∈ks,CZ U:=λU a=>AZ9 U (h U a)
def Tr.rep:Tr->List Int->Nat->Nat->List Tr->Tr
 |T,[],z,y,l=>T.kd' (T.kids.take z++l++T.kids.drop y)
 |T,i::p,z,y,l=>match T.kids[i.toNat]? with
  |some U=>T.kd' (T.kids.set i.toNat (U.rep p z y l))
  |none=>T
def BxP{Y:PV}{ys:List Tr}(f:KV Y ys)(q:ys≠[])(L:∀U∈ys,WdT U){z y:Nat}:∀(p:List Int) (T:Tr) (X:PV),KI X p->WdT T->∀U,T.at_ p=some U->z<=U.kids.length->y<=U.kids.length->U.kids.length+U.kids.length+ys.length<=1000000->∃K,E 143 [T.pv,X,N z,N y,Y] [] (T.rep p z y ys).pv K
 |[],T,X,m,g,U,c,x,u,O=>by
  cases c;obtain⟨w,l⟩:=g.self;have J:=KV.kp w;obtain⟨A,D,s⟩:=J.tk x;obtain⟨C,P,F⟩:=J.dr u;obtain⟨R,K,o,j⟩:=e198 s f F q (by rw[AA,Aw];omega)
  obtain⟨d,r⟩:=AZA j (by simp[q]) (by simp only[Ae,AA,Aw];omega) (x8 λV b=>by
   rcases Bv.1 b with b | b
   ·rcases Bv.1 b with b | b
    ·exact g.kid (List.mem_of_mem_take b)
    ·exact L V b
   ·exact g.kid (List.mem_of_mem_drop b))
  have Q:AQ (.bsl 1) [A,Y,C]=some [some (.slice true 1 [A,Y,C])]:=by
   show(if([A,Y,C].all λv=>v.cells.length==1&&v.flat)=true then some [some (PV.slice true 1 ([A,Y,C].map PV.Ag))] else none)=_
   rw[if_pos (by simp only[Dv,List.all_nil,s.cf,f.cf,F.cf];rfl)]
   simp only[Bu,CK,s.di,f.di,F.di]
  exact⟨_,BZM m rfl f.mv D P Q (FR o rfl rfl rfl (by rw[j.di])) r (uk T _) (AU8 _ _)⟩
 |i::p,T,X,m,g,V,b,x,u,O=>by
  obtain⟨w,l⟩:=g.self;rw[Tr.at_] at b
  split at b
  ·cases b
  ·rename_i hi;obtain⟨n,rfl⟩:∃n:Nat,i=n:=⟨i.toNat,am⟩
   rw[EH] at b;cases c:T.kids[n]? with
   |none=>rw[c] at b;cases b
   |some U=>
    rw[c] at b;have H:=Am c;have Z:=(Ad.1 c).1;have M:T.kids≠[]:=List.ne_nil_of_mem H
    have B:T.kp=slF 5 (Tr.pvs T.kids):=by
     rcases KV.kp w with⟨_,h⟩ | h
     ·exact absurd h M
     ·exact h
    obtain⟨d,o⟩:=e197 (AkF [] T.kids) M l (x8 λU c=>g.kid c)
    rw[<-B,Bn] at o;obtain⟨S,D,j⟩:=m.dr (k:=1) (by simp)
    obtain⟨σ',h2⟩:=BxP f q L p U S j (g.kid H) V b x u O
    have W:T.rep ((n:Int)::p) z y ys=T.kd' (T.kids.set n (U.rep p z y ys)):=by
     rw[Tr.rep,EH,c]
    rw[W];refine⟨_,BZL (P1:=.aptr 0 0 5 n 0) (TA:=.agg [I T.kind,.str T.text,I T.st,I T.en,ar 0 T.kids.length]) m (by simp) rfl f.mv (FR o rfl ?_ ?_ rfl) ?_ rfl (av Z) (Az1 (A:=[]) (e:=d) c) D (oCS _ h2 ?_) (zB (A:=[]) (e:=d) c _) (AU9 T d _ _ (by rw[C9]))⟩
    ·rw[Bu,(KV.kp w).di];rfl
    ·simp[(KV.kp w).fr]
    ·obtain⟨k,t,a,e,n,us⟩:=T;cases n<;>rfl
    ·simp[j.fr,j.fl,j.di,f.fr,f.fl,f.di]
end Go.Abs.Z

namespace Go.Abs.Z
noncomputable section
open Go.Proofs Go.RowKit
def kz(Y:Tr):AQ (.bsl 5) [Y.pv]=some [some (.slice true 5 [Y.pv])]:=QU
def ql:Rn 92 a92:=rn
def yT:Rn 47 a47:=rn
def BqJ:Rn 91 a91:=rn
section
variable{T U Y W:Tr}{X l:PV}{p K:List Int}{z y k x F D:Int}
section
variable(j:KI X p)(r:EvE 49 [T.pv,X] (.tuple [U.pv,.bool true]))
include j r
def iU:List Stp:=[sp 0 (BQ T),st 2 (Q (AL T)),sp 0 j.mv,st 0 (oC r (by simp[j.fr,j.fl,j.di]<;>first | rfl | exact⟨rfl,rfl⟩)),sp 1 (ex0 U (.bool true)),sp 0 (ex1 U (.bool true)),sp 1 (BD U)]
theorem rta(a:z<0):EvE 92 [T.pv,X,I z,I y,slF 5 [Y.pv]] (.tuple [.agg [I 0,.str [],I 0,I 0,.nils],I 2]):=
 rule ql (iU j r++[sp 6 (AZ .i64 a)])
section
variable(A:¬z<0)
include A
theorem rtb(a:z>y):EvE 92 [T.pv,X,I z,I y,slF 5 [Y.pv]] (.tuple [.agg [I 0,.str [],I 0,I 0,.nils],I 2]):=
 rule ql (iU j r++[sp 6 (Bh .i64 A),sq 3 (CF .i64 a)])
section
variable(G:¬z>y)(J:U.wf)
include G J
def iT:List Stp:=iU j r++[sp 6 (Bh .i64 A),sq 3 (Cz .i64 G),sq 3 (DI U),sg 0 (Q (EE U)),sq 0 (EZ J)]
theorem rtc(a:y>(U.kids.length:Int)):EvE 92 [T.pv,X,I z,I y,slF 5 [Y.pv]] (.tuple [.agg [I 0,.str [],I 0,I 0,.nils],I 2]):=
 rule ql (iT j r A G J++[sq 0 (CF .i64 a)])
theorem rtd(b:¬y>(U.kids.length:Int))(d:EvE 142 [I U.kind] (.bool true)){a:Sto}(c:E 143 [T.pv,X,I z,I y,slF 5 [Y.pv]] [] W.pv a):EvE 92 [T.pv,X,I z,I y,slF 5 [Y.pv]] (.tuple [W.pv,I 0]):=
 Br ql (iT j r A G J++[sq 0 (Cz .i64 b),sp 3 (BX U),st 1 (oC d),st 11 (Q (AL T)),sp 0 j.mv,st 3 (oC c (by simp[j.fr,j.fl,j.di]<;>first | rfl | exact⟨rfl,rfl⟩)),sp 0 (IA (I 0) (.str []) (I 0) (I 0) .nils W)]) (by simp[Et,CX,PV.Fz]:(FE [(10,some W.pv),(11,some (I 0))] [(10,some 5),(11,none)]).bind CX=some (.tuple [W.pv,I 0]))
theorem rte(b:¬y>(U.kids.length:Int))(c:EvE 142 [I U.kind] (.bool false))(a6:BM (.bin .sub 0) [I y,I z] (I k))(a:1=k){d:Sto}(e8:E 143 [T.pv,X,I z,I y,slF 5 [Y.pv]] [] W.pv d):EvE 92 [T.pv,X,I z,I y,slF 5 [Y.pv]] (.tuple [W.pv,I 0]):=
 Br ql (iT j r A G J++[sq 0 (Cz .i64 b),sp 3 (BX U),st 1 (oC c),sq 6 a6,sq 0 (Dr .i64 a),st 3 (Q (AL T)),sp 0 j.mv,st 3 (oC e8 (by simp[j.fr,j.fl,j.di]<;>first | rfl | exact⟨rfl,rfl⟩)),sp 0 (IA (I 0) (.str []) (I 0) (I 0) .nils W)]) (by simp[Et,CX,PV.Fz]:(FE [(10,some W.pv),(11,some (I 0))] [(10,some 5),(11,none)]).bind CX=some (.tuple [W.pv,I 0]))
end
end
end
section
variable(j:KI X p)
include j
theorem rtg(a:EvE 49 [T.pv,X] (.tuple [U.pv,.bool false])):EvE 92 [T.pv,X,I z,I y,slF 5 [Y.pv]] (.tuple [.agg [I 0,.str [],I 0,I 0,.nils],I 7]):=
 rule ql [sp 0 (BQ T),st 2 (Q (AL T)),sp 0 j.mv,st 0 (oC a (by simp[j.fr,j.fl,j.di]<;>first | rfl | exact⟨rfl,rfl⟩)),sp 1 (ex0 U (.bool false)),sp 0 (ex1 U (.bool false)),sp 1 (BD U)]
theorem pua(a:(p.length:Int)=0)(b:EvE 91 [Y.pv] (.bool true)):EvE 47 [T.pv,X,Y.pv] (.tuple [Y.pv,.bool true]):=
 Br yT [sp 0 (BQ T),sp 0 (BQ Y),sp 2 j.mv,sp 0 j.len,sp 0 (Bz .i64 a),st 1 (Q (AL Y)),st 0 (Q (AL Y)),st 0 (oC b),sp 0 (IA (I 0) (.str []) (I 0) (I 0) .nils Y)] (by simp[Et,CX,PV.Fz]:(FE [(6,some Y.pv),(7,some (.bool true))] [(6,some 5),(7,none)]).bind CX=some (.tuple [Y.pv,.bool true]))
theorem pub(a:(p.length:Int)=0)(b:EvE 91 [Y.pv] (.bool false)):EvE 47 [T.pv,X,Y.pv] (.tuple [Y.pv,.bool false]):=
 Br yT [sp 0 (BQ T),sp 0 (BQ Y),sp 2 j.mv,sp 0 j.len,sp 0 (Bz .i64 a),st 1 (Q (AL Y)),st 0 (Q (AL Y)),st 0 (oC b),sp 0 (IA (I 0) (.str []) (I 0) (I 0) .nils Y)] (by simp[Et,CX,PV.Fz]:(FE [(6,some Y.pv),(7,some (.bool false))] [(6,some 5),(7,none)]).bind CX=some (.tuple [Y.pv,.bool false]))
section
variable(H:(p.length:Int)≠0)
include H
def iR:List Stp:=[sp 0 (BQ T),sp 0 (BQ Y),sp 2 j.mv,sp 0 j.len,sp 0 (Bb .i64 H),sp 1 j.mv,sp 0 j.len]
theorem puc(b:p.length<1000000000)(a:1<=p.length)(c2:BM (.vsl 1 false true) [X,N (p.length - 1)] l)(c:KI l K)(g:BM (.idx 1) [X,N (p.length - 1)] (.vptr (I x)))(f:BM (.idx 1) [X,N (p.length - 1)] (.vptr (I F)))(a5:BM (.bin .add 0) [I F,I 1] (I D))(d:EvE 92 [T.pv,l,I x,I D,slF 5 [Y.pv]] (.tuple [W.pv,I k]))(e:k=0)(e8:EvE 91 [W.pv] (.bool true)):EvE 47 [T.pv,X,Y.pv] (.tuple [W.pv,.bool true]):=
 Br yT (iR (T:=T) (Y:=Y) j H++[sp 0 (Fb p.length 1 a am),st 1 (Q (AL T)),sp 0 j.mv,sp 1 c2,sp 0 j.mv,sp 1 g,sp 1 j.mv,sp 1 f,sp 1 a5,st 0 (Q (AL Y)),sp 0 (kz Y),st 0 (oC d (by simp[c.fr,c.fl,c.di]<;>first | rfl | exact⟨rfl,rfl⟩)),sp 1 (ex0 W (I k)),sp 0 (ex1 W (I k)),sp 1 (BD W),st 1 (Q (AL W)),sp 1 (Bz .i64 e),sg 1 (Q (AL W)),sg 0 (oC e8),sp 1 (IA (I 0) (.str []) (I 0) (I 0) .nils W)]) (by simp[Et,CX,PV.Fz]:(FE [(6,some W.pv),(7,some (.bool true))] [(6,some 5),(7,none)]).bind CX=some (.tuple [W.pv,.bool true]))
theorem pud(b:p.length<1000000000)(a:1<=p.length)(c2:BM (.vsl 1 false true) [X,N (p.length - 1)] l)(c:KI l K)(g:BM (.idx 1) [X,N (p.length - 1)] (.vptr (I x)))(f:BM (.idx 1) [X,N (p.length - 1)] (.vptr (I F)))(a5:BM (.bin .add 0) [I F,I 1] (I D))(d:EvE 92 [T.pv,l,I x,I D,slF 5 [Y.pv]] (.tuple [W.pv,I k]))(e:k=0)(e8:EvE 91 [W.pv] (.bool false)):EvE 47 [T.pv,X,Y.pv] (.tuple [W.pv,.bool false]):=
 Br yT (iR (T:=T) (Y:=Y) j H++[sp 0 (Fb p.length 1 a am),st 1 (Q (AL T)),sp 0 j.mv,sp 1 c2,sp 0 j.mv,sp 1 g,sp 1 j.mv,sp 1 f,sp 1 a5,st 0 (Q (AL Y)),sp 0 (kz Y),st 0 (oC d (by simp[c.fr,c.fl,c.di]<;>first | rfl | exact⟨rfl,rfl⟩)),sp 1 (ex0 W (I k)),sp 0 (ex1 W (I k)),sp 1 (BD W),st 1 (Q (AL W)),sp 1 (Bz .i64 e),sg 1 (Q (AL W)),sg 0 (oC e8),sp 1 (IA (I 0) (.str []) (I 0) (I 0) .nils W)]) (by simp[Et,CX,PV.Fz]:(FE [(6,some W.pv),(7,some (.bool false))] [(6,some 5),(7,none)]).bind CX=some (.tuple [W.pv,.bool false]))
theorem pue(b:p.length<1000000000)(a:1<=p.length)(c2:BM (.vsl 1 false true) [X,N (p.length - 1)] l)(c:KI l K)(g:BM (.idx 1) [X,N (p.length - 1)] (.vptr (I x)))(f:BM (.idx 1) [X,N (p.length - 1)] (.vptr (I F)))(a5:BM (.bin .add 0) [I F,I 1] (I D))(d:EvE 92 [T.pv,l,I x,I D,slF 5 [Y.pv]] (.tuple [W.pv,I k]))(e:k≠0):EvE 47 [T.pv,X,Y.pv] (.tuple [W.pv,.bool false]):=
 Br yT (iR (T:=T) (Y:=Y) j H++[sp 0 (Fb p.length 1 a am),st 1 (Q (AL T)),sp 0 j.mv,sp 1 c2,sp 0 j.mv,sp 1 g,sp 1 j.mv,sp 1 f,sp 1 a5,st 0 (Q (AL Y)),sp 0 (kz Y),st 0 (oC d (by simp[c.fr,c.fl,c.di]<;>first | rfl | exact⟨rfl,rfl⟩)),sp 1 (ex0 W (I k)),sp 0 (ex1 W (I k)),sp 1 (BD W),st 1 (Q (AL W)),sp 1 (Bb .i64 e),sp 4 (IA (I 0) (.str []) (I 0) (I 0) .nils W)]) (by simp[Et,CX,PV.Fz]:(FE [(6,some W.pv),(7,some (.bool false))] [(6,some 5),(7,none)]).bind CX=some (.tuple [W.pv,.bool false]))
end
end
def BUU(b:T.kind=2)(a:EvE 60 [T.pv] (.bool true)):EvE 91 [T.pv] (.bool true):=
 rule BqJ [sp 0 (BQ T),sp 1 (BX T),sp 1 (Bz .i64 b),sg 1 (Q (AL T)),sg 0 (oC a)]
def BUS(b:T.kind=2)(a:EvE 60 [T.pv] (.bool false)):EvE 91 [T.pv] (.bool false):=
 rule BqJ [sp 0 (BQ T),sp 1 (BX T),sp 1 (Bz .i64 b),sg 1 (Q (AL T)),sg 0 (oC a)]
def BUR(a:T.kind≠2):EvE 91 [T.pv] (.bool false):=
 rule BqJ [sp 0 (BQ T),sp 1 (BX T),sp 1 (Bb .i64 a)]
end
end
end Go.Abs.Z
