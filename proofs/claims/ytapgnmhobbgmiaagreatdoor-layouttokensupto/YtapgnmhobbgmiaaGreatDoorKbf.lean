/- A part of the proof: WT ZE WZ Y6 ZF ZG WU ZH WV D29 GR. -/
import Derived.Test.YtapgnmhobbgmiaaGreatDoorKba
import Derived.Test.YtapgnmhobbgmiaaGreatDoorKbe
import Derived.Test.YtapgnmhobbgmiaaGreatDoorKav
import Derived.Test.YtapgnmhobbgmiaaGreatDoorKbc
import Derived.Test.YtapgnmhobbgmiaaGreatDoorKay
import Derived.Test.YtapgnmhobbgmiaaGreatDoorKaz

set_option linter.unusedVariables false
set_option linter.unusedSimpArgs false
namespace Go.Abs.Z
open PV
open Go.Proofs Go.RowKit
set_option linter.unusedVariables false
set_option linter.unusedSimpArgs false
theorem yN{l m:List Tr}(hm:m≠[])(hl:l.length+m.length≤Bn):Be (.app 5) [.slice true 5 (Tr.pvs l),.slice false 5 (Tr.pvs m)]=some [some (.slice true 5 (Tr.pvs (l++m))),some (.slice false 5 (Tr.pvs l))]:=by
 have e:Tr.pvs (l++m)=Tr.pvs l++Tr.pvs m:=by rw[Tr.Fj,Tr.Fj,Tr.Fj,Ca]
 rw[e];refine NA ?_ ?_ ?_
 ·rw[Tr.Fj,Tr.Fj,Aq,Aq];exact hl
 ·cases m with
  |nil=>exact absurd rfl hm
  |cons=>rfl
 ·rw[Tr.Fj];simp
theorem AQM(t:Tk):Be (.aeq true [0,0,0,0]) [t.pv,t.pv]=some [some (.bool false)]:=by
 simp[Be,Tk.pv,eqL,eqC]
theorem AQQ:Rn 69 a69:=fun _ _ _=>rfl
theorem AXT{t:Tk}{x:Tr}(h:t.k=5):E 69 [t.pv,x.pv] [] (.bool (x.kind==2)) []:=
 rule AQQ [sp 1 (DD x),sp 3 (BJ .i64 (show(t.k:Int)=5 by omega)),sp 1 (EO x)]
theorem AXS{t:Tk}{x:Tr}(h:t.k≠5)(h2:x.st≤(t.a:Nat)):E 69 [t.pv,x.pv] [] (.bool (decide ((t.e:Int)≤x.en))) []:=
 rule AQQ [sp 1 (DD x),sp 3 (AX .i64 (show(t.k:Int)≠5 by omega)),sp 3 (EB x),sp 1 (KZ .i64 h2),sq 3 (Ji x)]
theorem AXR{t:Tk}{x:Tr}(h:t.k≠5)(h2:¬x.st≤(t.a:Nat)):E 69 [t.pv,x.pv] [] (.bool false) []:=
 rule AQQ [sp 1 (DD x),sp 3 (AX .i64 (show(t.k:Int)≠5 by omega)),sp 3 (EB x),sp 1 (LQ .i64 h2)]
theorem iB:Rn 67 a67:=fun _ _ _=>rfl
theorem AZ2{A B:Tr}   (h:A.kind≠B.kind):E 67 [A.pv,B.pv] [] (.bool false) []:=
 rule iB [sp 0 (DD A),sp 0 (DD B),sp 1 (EO A),sp 1 (EO B),sp 1 (DU .i64 h)]
theorem AZ1{A B:Tr}  (h1:A.kind=B.kind) (h:A.text≠B.text):E 67 [A.pv,B.pv] [] (.bool false) []:=
 rule iB [sp 0 (DD A),sp 0 (DD B),sp 1 (EO A),sp 1 (EO B),sp 1 (DF .i64 h1),sq 1 (Fz A),sq 1 (Fz B),sq 1 (oO h)]
theorem AZ0{A B:Tr}  (h1:A.kind=B.kind) (h2:A.text=B.text) (h:A.st≠B.st):E 67 [A.pv,B.pv] [] (.bool false) []:=
 rule iB [sp 0 (DD A),sp 0 (DD B),sp 1 (EO A),sp 1 (EO B),sp 1 (DF .i64 h1),sq 1 (Fz A),sq 1 (Fz B),sq 1 (Oo h2),sq 2 (EB A),sq 1 (EB B),sq 1 (DU .i64 h)]
theorem AXZ{A B:Tr}  (h1:A.kind=B.kind) (h2:A.text=B.text) (h3:A.st=B.st) (h:A.en≠B.en):E 67 [A.pv,B.pv] [] (.bool false) []:=
 rule iB [sp 0 (DD A),sp 0 (DD B),sp 1 (EO A),sp 1 (EO B),sp 1 (DF .i64 h1),sq 1 (Fz A),sq 1 (Fz B),sq 1 (Oo h2),sq 2 (EB A),sq 1 (EB B),sq 1 (DF .i64 h3),sq 2 (Ji A),sq 1 (Ji B),sq 1 (DU .i64 h)]
theorem AXY{A B:Tr}(wA:A.wf)(wB:B.wf)(h1:A.kind=B.kind)(h2:A.text=B.text)(h3:A.st=B.st)(h4:A.en=B.en)(h:A.kids.length≠B.kids.length):E 67 [A.pv,B.pv] [] (.bool false) []:=
 rule iB [sp 0 (DD A),sp 0 (DD B),sp 1 (EO A),sp 1 (EO B),sp 1 (DF .i64 h1),sq 1 (Fz A),sq 1 (Fz B),sq 1 (Oo h2),sq 2 (EB A),sq 1 (EB B),sq 1 (DF .i64 h3),sq 2 (Ji A),sq 1 (Ji B),sq 1 (DF .i64 h4),sq 2 (E8 A),sg 0 (Q (GJ A)),sq 0 (EY wA),sq 0 (E8 B),sg 0 (Q (GJ B)),sq 0 (EY wB),sq 0 (DU .i64 (show(A.kids.length:Int)≠(B.kids.length:Int) by omega))]
theorem AXX{A B:Tr}(wA:A.wf)(wB:B.wf)(h1:A.kind=B.kind)(h2:A.text=B.text)(h3:A.st=B.st)(h4:A.en=B.en)(h5:A.kids.length=B.kids.length)(L1:LL a67 0 [(2,vptr A.pv),(3,vptr B.pv),(5,N 0)] [] (.exit 0) [] []):E 67 [A.pv,B.pv] [] (.bool true) []:=
 rule iB [sp 0 (DD A),sp 0 (DD B),sp 1 (EO A),sp 1 (EO B),sp 1 (DF .i64 h1),sq 1 (Fz A),sq 1 (Fz B),sq 1 (Oo h2),sq 2 (EB A),sq 1 (EB B),sq 1 (DF .i64 h3),sq 2 (Ji A),sq 1 (Ji B),sq 1 (DF .i64 h4),sq 2 (E8 A),sg 0 (Q (GJ A)),sq 0 (EY wA),sq 0 (E8 B),sg 0 (Q (GJ B)),sq 0 (EY wB),sq 0 (DF .i64 (show(A.kids.length:Int)=(B.kids.length:Int) by omega)),sl 3 [2,3,5] L1]
theorem AXW{A B:Tr}(wA:A.wf)(wB:B.wf)(h1:A.kind=B.kind)(h2:A.text=B.text)(h3:A.st=B.st)(h4:A.en=B.en)(h5:A.kids.length=B.kids.length)(L1:LL a67 0 [(2,vptr A.pv),(3,vptr B.pv),(5,N 0)] [] .ret [(4,bool false)] []):E 67 [A.pv,B.pv] [] (.bool false) []:=
 rule iB [sp 0 (DD A),sp 0 (DD B),sp 1 (EO A),sp 1 (EO B),sp 1 (DF .i64 h1),sq 1 (Fz A),sq 1 (Fz B),sq 1 (Oo h2),sq 2 (EB A),sq 1 (EB B),sq 1 (DF .i64 h3),sq 2 (Ji A),sq 1 (Ji B),sq 1 (DF .i64 h4),sq 2 (E8 A),sg 0 (Q (GJ A)),sq 0 (EY wA),sq 0 (E8 B),sg 0 (Q (GJ B)),sq 0 (EY wB),sq 0 (DF .i64 (show(A.kids.length:Int)=(B.kids.length:Int) by omega)),sl 3 [2,3,5] L1]
theorem yV{A B U V:Tr}{j:Nat}(wA:A.wf)(wB:B.wf)(hj:j<A.kids.length)(hU:A.kids[j]?=some U)(hV:B.kids[j]?=some V)(h:E 67 [U.pv,V.pv] [] (.bool true) [])(l:j<2000000000){e:Cu}{ff1:FF}{σ1:Sto}(hl:LL a67 0 [(2,vptr A.pv),(3,vptr B.pv),(5,N (j+1))] [] e ff1 σ1):LL a67 0 [(2,vptr A.pv),(3,vptr B.pv),(5,N j)] [] e ff1 σ1:=
 BM [2,3,5] [sp 1 (E8 A),st 0 (Q (GJ A)),sp 0 (EY wA),sp 0 (AQ .i64 (show(j:Int) < (A.kids.length:Int) by omega)),sp 1 (E8 A),st 0 (Q (GJ A)),sp 1 (IV j wA hU),st 0 (Q (Bu U)),sp 0 (E8 B),st 0 (Q (GJ B)),sp 1 (IV j wB hV),st 0 (Q (Bu V)),st 0 (oC h),sp 3 (AB j 1 l)] hl
theorem AXV{A B U V:Tr}{j:Nat}(wA:A.wf)(wB:B.wf)(hj:j<A.kids.length)(hU:A.kids[j]?=some U)(hV:B.kids[j]?=some V)(h:E 67 [U.pv,V.pv] [] (.bool false) []):LL a67 0 [(2,vptr A.pv),(3,vptr B.pv),(5,N j)] [] .ret [(4,bool false)] []:=
 BA [4] [sp 1 (E8 A),st 0 (Q (GJ A)),sp 0 (EY wA),sp 0 (AQ .i64 (show(j:Int) < (A.kids.length:Int) by omega)),sp 1 (E8 A),st 0 (Q (GJ A)),sp 1 (IV j wA hU),st 0 (Q (Bu U)),sp 0 (E8 B),st 0 (Q (GJ B)),sp 1 (IV j wB hV),st 0 (Q (Bu V)),st 0 (oC h)]
theorem AXU{A B:Tr}{j:Nat}(wA:A.wf)(hj:¬j<A.kids.length):LL a67 0 [(2,vptr A.pv),(3,vptr B.pv),(5,N j)] [] (.exit 0) [] []:=
 BA [] [sp 1 (E8 A),st 0 (Q (GJ A)),sp 0 (EY wA),sp 0 (BN .i64 (show ¬(j:Int) < (A.kids.length:Int) by omega))]
theorem BQ3:Rn 13 a13:=fun _ _ _=>rfl
theorem Bj3{x:Tr}{l:List Tr}(L1:LL a13 0 [(1,vptr x.pv),(3,slice true 5 (Tr.pvs [x])),(4,N 0)] [] (.exit 0) [(3,slice true 5 (Tr.pvs l))] []):E 13 [x.pv] [] (.slice false 5 (Tr.pvs l)) []:=
 rule BQ3 [sp 0 (DD x),st 1 (Q (Bu x)),sp 0 (Um:Be (.bsl 5) [x.pv]=some [some (.slice true 5 [x.pv])]),sl 2 [1,3,4] L1]
theorem AZ8{x U:Tr}{l m:List Tr}{j:Nat}(w:x.wf)(hj:j<x.kids.length)(hU:x.kids[j]?=some U)(h:E 13 [U.pv] [] (.slice false 5 (Tr.pvs m)) [])(hm:m≠[])(hl:l.length+m.length≤Bn)(lj:j<2000000000){e:Cu}{ff1:FF}{σ1:Sto}(hL:LL a13 0 [(1,vptr x.pv),(3,slice true 5 (Tr.pvs (l++m))),(4,N (j+1))] [] e ff1 σ1):LL a13 0 [(1,vptr x.pv),(3,slice true 5 (Tr.pvs l)),(4,N j)] [] e ff1 σ1:=
 BM [1,3,4] [sp 1 (E8 x),st 0 (Q (GJ x)),sp 0 (EY w),sp 0 (AQ .i64 (show(j:Int) < (x.kids.length:Int) by omega)),sp 2 (E8 x),st 0 (Q (GJ x)),sp 1 (IV j w hU),st 0 (Q (Bu U)),st 0 (oC h),sp 0 (yN hm hl),sp 2 (AB j 1 lj)] hL
theorem AZ7{x:Tr}{l:List Tr}{j:Nat}(w:x.wf)(hj:¬j<x.kids.length):LL a13 0 [(1,vptr x.pv),(3,slice true 5 (Tr.pvs l)),(4,N j)] [] (.exit 0) [(3,slice true 5 (Tr.pvs l))] []:=
 BA [3] [sp 1 (E8 x),st 0 (Q (GJ x)),sp 0 (EY w),sp 0 (BN .i64 (show ¬(j:Int) < (x.kids.length:Int) by omega))]
theorem RT4:Rn 4 a4:=fun _ _ _=>rfl
theorem Bj0{x:Tr}{q:List Tr}(h:E 13 [x.pv] [] (.slice false 5 (Tr.pvs q)) [])(L1:LL a4 0 [(1,I 100),(5,slice false 5 (Tr.pvs q)),(6,N 0)] [] (.exit 0) [(1,I 100),(5,slice false 5 (Tr.pvs q))] []):E 4 [x.pv,I 100] [] (.bool (decide ((q.length:Int)≤100))) []:=
 rule RT4 [sp 0 (DD x),st 1 (Q (Bu x)),st 0 (oC h),sl 2 [1,5,6] L1,sp 1 (FZ false 5 q)]
theorem BzZ{x:Tr}{q:List Tr}(h:E 13 [x.pv] [] (.slice false 5 (Tr.pvs q)) [])(L1:LL a4 0 [(1,I 100),(5,slice false 5 (Tr.pvs q)),(6,N 0)] [] .ret [(4,bool false)] []):E 4 [x.pv,I 100] [] (.bool false) []:=
 rule RT4 [sp 0 (DD x),st 1 (Q (Bu x)),st 0 (oC h),sl 2 [1,5,6] L1]
theorem AZ3{q:List Tr}{U:Tr}{j:Nat}(hj:j<q.length)(hU:q[j]?=some U)(h:U.text.length≤60)(l:j<2000000000){e:Cu}{ff1:FF}{σ1:Sto}(hl:LL a4 0 [(1,I 100),(5,slice false 5 (Tr.pvs q)),(6,N (j+1))] [] e ff1 σ1):LL a4 0 [(1,I 100),(5,slice false 5 (Tr.pvs q)),(6,N j)] [] e ff1 σ1:=
 BM [1,5,6] [sp 2 (FZ false 5 q),sp 0 (AQ .i64 (show(j:Int) < (q.length:Int) by omega)),sp 3 (Gn (o:=false) (s:=5) j hU),sp 0 (Fz U),sp 2 (DI .i64 (show ¬(U.text.length:Int) > 60 by omega)),sp 2 (AB j 1 l)] hl
theorem BzY{q:List Tr}{U:Tr}{j:Nat}(hj:j<q.length)(hU:q[j]?=some U)(h:¬U.text.length≤60):LL a4 0 [(1,I 100),(5,slice false 5 (Tr.pvs q)),(6,N j)] [] .ret [(4,bool false)] []:=
 BA [4] [sp 2 (FZ false 5 q),sp 0 (AQ .i64 (show(j:Int) < (q.length:Int) by omega)),sp 3 (Gn (o:=false) (s:=5) j hU),sp 0 (Fz U),sp 2 (CX .i64 (show(U.text.length:Int) > 60 by omega))]
theorem BzX{q:List Tr}{j:Nat}(hj:¬j<q.length):LL a4 0 [(1,I 100),(5,slice false 5 (Tr.pvs q)),(6,N j)] [] (.exit 0) [(1,I 100),(5,slice false 5 (Tr.pvs q))] []:=
 BA [1,5] [sp 2 (FZ false 5 q),sp 0 (BN .i64 (show ¬(j:Int) < (q.length:Int) by omega))]
theorem BxH:Rn 10 a10:=fun _ _ _=>rfl
theorem AZA  : LL a10 0 [(0,nils),(1,nils),(5,N 0)] [] (.exit 0) [] []:=
 BA [] []
theorem mV  : E 10 [.nils,.nils] [] (.bool true) []:=
 rule BxH [sl 8 [0,1,5] AZA]
theorem Bj4{q:List Tk}(L1:LL a10 0 [(0,BG 4 (q.map Tk.pv)),(1,slice false 4 (q.map Tk.pv)),(5,N 0)] [] (.exit 0) [] []):E 10 [BG 4 (q.map Tk.pv),.slice false 4 (q.map Tk.pv)] [] (.bool true) []:=
 rule BxH [sp 1 (GI 4 (q.map Tk.pv)),sp 0 (Ps 4 Tk.pv q),sp 1 (FL false 4 q),sp 0 (DF .i64 (rfl:(q.length:Int)=(q.length:Int))),sl 2 [0,1,5] L1]
theorem AZB{q:List Tk}{t:Tk}{j:Nat}(hj:j<q.length)(ht:q[j]?=some t)(l:j<2000000000){e:Cu}{ff1:FF}{σ1:Sto}(hl:LL a10 0 [(0,BG 4 (q.map Tk.pv)),(1,slice false 4 (q.map Tk.pv)),(5,N (j+1))] [] e ff1 σ1):LL a10 0 [(0,BG 4 (q.map Tk.pv)),(1,slice false 4 (q.map Tk.pv)),(5,N j)] [] e ff1 σ1:=
 BM [0,1,5] [sp 1 (GI 4 (q.map Tk.pv)),sp 0 (Ps 4 Tk.pv q),sp 0 (AQ .i64 (show(j:Int) < (q.length:Int) by omega)),sp 1 (GI 4 (q.map Tk.pv)),sp 1 (cz (z:=4) (f:=Tk.pv) j ht),sp 3 (BO (o:=false) (s:=4) j ht),sp 1 (AQM t),sp 2 (AB j 1 l)] hl
theorem AZ9{q:List Tk}{j:Nat}(hj:¬j<q.length):LL a10 0 [(0,BG 4 (q.map Tk.pv)),(1,slice false 4 (q.map Tk.pv)),(5,N j)] [] (.exit 0) [] []:=
 BA [] [sp 1 (GI 4 (q.map Tk.pv)),sp 0 (Ps 4 Tk.pv q),sp 0 (BN .i64 (show ¬(j:Int) < (q.length:Int) by omega))]
theorem BQ2:Rn 25 a25:=fun _ _ _=>rfl
theorem Bj2{s:List UInt8}{Tq x:Tr}{D:List PV}{b:Bool}{σ:Sto}(h14:E 14 [.str s] [] (.tuple [Tq.pv,.slice false 5 D,I 0]) σ)(h67:E 67 [Tq.pv,x.pv] [] (.bool b) []):E 25 [.str s,x.pv] [] (.tuple [.bool b,.bool ((D.length:Int)==0)]) []:=
 rule BQ2 [sp 0 (DD x),st 3 (Fy (σ:=[]) (vs:=[.str s]) (r':=.tuple [Tq.pv,.slice false 5 D,I 0]) h14 (by simp) (by simp) (by simp) (by simp)),sp 1 (Gp (l:=[Tq.pv,.slice false 5 D,I 0]) 0 (v:=Tq.pv) rfl (by simp) (by simp)),sp 0 (Gp (l:=[Tq.pv,.slice false 5 D,I 0]) 1 (v:=.slice false 5 D) rfl (by simp) rfl),sp 0 (Gp (l:=[Tq.pv,.slice false 5 D,I 0]) 2 (v:=I 0) rfl (by simp) rfl),sp 1 (BF Tq),sg 5 (Q (Bu Tq)),sg 0 (Q (Bu x)),sg 0 (oC h67)]
theorem BQ1:Rn 26 a26:=fun _ _ _=>rfl
theorem Bj1{s:List UInt8}{x:Tr}{ts q:List Tk}(h:E 68 [.str s] [] (.tuple [.slice false 4 (ts.map Tk.pv),I 0]) [])(L1:LL a26 0 [(3,vptr x.pv),(5,slice true 4 ([].map Tk.pv)),(6,slice false 4 (ts.map Tk.pv)),(8,N 0)] [] (.exit 0) [(5,slice true 4 (q.map Tk.pv))] []):E 26 [.str s,x.pv] [] (.slice false 4 (q.map Tk.pv)) []:=
 rule BQ1 [sp 0 (DD x),st 4 (oC h),sl 6 [3,5,6,8] L1]
theorem AZ5{x:Tr}{ts q:List Tk}{t:Tk}{j:Nat}{b:Bool}(hj:j<ts.length)(ht:ts[j]?=some t)(h:E 69 [t.pv,x.pv] [] (.bool b) [])(l:j<2000000000)(hq:q.length+1≤Bn)(L1:LL a26 1 [(3,vptr x.pv),(5,slice true 4 (q.map Tk.pv)),(6,slice false 4 (ts.map Tk.pv)),(8,N j),(9,bool b),(10,N 0)] [] (.exit 2) [(3,vptr x.pv),(5,slice true 4 (q.map Tk.pv)),(6,slice false 4 (ts.map Tk.pv)),(8,N j),(9,bool true)] []){e:Cu}{ff1:FF}{σ1:Sto}(hl:LL a26 0 [(3,vptr x.pv),(5,slice true 4 ((q++[t]).map Tk.pv)),(6,slice false 4 (ts.map Tk.pv)),(8,N (j+1))] [] e ff1 σ1):LL a26 0 [(3,vptr x.pv),(5,slice true 4 (q.map Tk.pv)),(6,slice false 4 (ts.map Tk.pv)),(8,N j)] [] e ff1 σ1:=
 BM [3,5,6,8] [sp 2 (FL false 4 ts),sp 0 (AQ .i64 (show(j:Int) < (ts.length:Int) by omega)),sp 3 (BO (o:=false) (s:=4) j ht),st 1 (Q (Bu x)),st 0 (oC h),sl 2 [3,5,6,8,9,10] L1,sp 5 (BO (o:=false) (s:=4) j ht),sp 2 (Zc true t hq),sp 2 (AB j 1 l)] hl
theorem AZ6{x:Tr}{ts q:List Tk}{t:Tk}{j:Nat}{b:Bool}(hj:j<ts.length)(ht:ts[j]?=some t)(h:E 69 [t.pv,x.pv] [] (.bool b) [])(l:j<2000000000)(L1:LL a26 1 [(3,vptr x.pv),(5,slice true 4 (q.map Tk.pv)),(6,slice false 4 (ts.map Tk.pv)),(8,N j),(9,bool b),(10,N 0)] [] (.exit 2) [(3,vptr x.pv),(5,slice true 4 (q.map Tk.pv)),(6,slice false 4 (ts.map Tk.pv)),(8,N j),(9,bool false)] []){e:Cu}{ff1:FF}{σ1:Sto}(hl:LL a26 0 [(3,vptr x.pv),(5,slice true 4 (q.map Tk.pv)),(6,slice false 4 (ts.map Tk.pv)),(8,N (j+1))] [] e ff1 σ1):LL a26 0 [(3,vptr x.pv),(5,slice true 4 (q.map Tk.pv)),(6,slice false 4 (ts.map Tk.pv)),(8,N j)] [] e ff1 σ1:=
 BM [3,5,6,8] [sp 2 (FL false 4 ts),sp 0 (AQ .i64 (show(j:Int) < (ts.length:Int) by omega)),sp 3 (BO (o:=false) (s:=4) j ht),st 1 (Q (Bu x)),st 0 (oC h),sl 2 [3,5,6,8,9,10] L1,sp 3 (AB j 1 l)] hl
theorem AZ4{x:Tr}{ts q:List Tk}{j:Nat}(hj:¬j<ts.length):LL a26 0 [(3,vptr x.pv),(5,slice true 4 (q.map Tk.pv)),(6,slice false 4 (ts.map Tk.pv)),(8,N j)] [] (.exit 0) [(5,slice true 4 (q.map Tk.pv))] []:=
 BA [5] [sp 2 (FL false 4 ts),sp 0 (BN .i64 (show ¬(j:Int) < (ts.length:Int) by omega))]
theorem Az3{x U:Tr}{ts q:List Tk}{t:Tk}{j k:Nat}{b:Bool}(w:x.wf)(ht:ts[j]?=some t)(hk:k<x.kids.length)(hU:x.kids[k]?=some U)(l:k<2000000000)(h:E 69 [t.pv,U.pv] [] (.bool true) []){e:Cu}{ff1:FF}{σ1:Sto}(hl:LL a26 1 [(3,vptr x.pv),(5,slice true 4 (q.map Tk.pv)),(6,slice false 4 (ts.map Tk.pv)),(8,N j),(9,bool false),(10,N (k+1))] [] e ff1 σ1):LL a26 1 [(3,vptr x.pv),(5,slice true 4 (q.map Tk.pv)),(6,slice false 4 (ts.map Tk.pv)),(8,N j),(9,bool b),(10,N k)] [] e ff1 σ1:=
 BM [3,5,6,8,9,10] [sp 1 (E8 x),st 0 (Q (GJ x)),sp 0 (EY w),sp 0 (AQ .i64 (show(k:Int) < (x.kids.length:Int) by omega)),sp 3 (BO (o:=false) (s:=4) j ht),sp 1 (E8 x),st 0 (Q (GJ x)),sp 1 (IV k w hU),st 0 (Q (Bu U)),st 0 (oC h),sp 3 (AB k 1 l)] hl
theorem Az4{x U:Tr}{ts q:List Tk}{t:Tk}{j k:Nat}{b:Bool}(w:x.wf)(ht:ts[j]?=some t)(hk:k<x.kids.length)(hU:x.kids[k]?=some U)(l:k<2000000000)(h:E 69 [t.pv,U.pv] [] (.bool false) []){e:Cu}{ff1:FF}{σ1:Sto}(hl:LL a26 1 [(3,vptr x.pv),(5,slice true 4 (q.map Tk.pv)),(6,slice false 4 (ts.map Tk.pv)),(8,N j),(9,bool b),(10,N (k+1))] [] e ff1 σ1):LL a26 1 [(3,vptr x.pv),(5,slice true 4 (q.map Tk.pv)),(6,slice false 4 (ts.map Tk.pv)),(8,N j),(9,bool b),(10,N k)] [] e ff1 σ1:=
 BM [3,5,6,8,9,10] [sp 1 (E8 x),st 0 (Q (GJ x)),sp 0 (EY w),sp 0 (AQ .i64 (show(k:Int) < (x.kids.length:Int) by omega)),sp 3 (BO (o:=false) (s:=4) j ht),sp 1 (E8 x),st 0 (Q (GJ x)),sp 1 (IV k w hU),st 0 (Q (Bu U)),st 0 (oC h),sp 2 (AB k 1 l)] hl
theorem Az2{x:Tr}{ts q:List Tk}{j k:Nat}{b:Bool}(w:x.wf)(hk:¬k<x.kids.length):LL a26 1 [(3,vptr x.pv),(5,slice true 4 (q.map Tk.pv)),(6,slice false 4 (ts.map Tk.pv)),(8,N j),(9,bool b),(10,N k)] [] (.exit 2) [(3,vptr x.pv),(5,slice true 4 (q.map Tk.pv)),(6,slice false 4 (ts.map Tk.pv)),(8,N j),(9,bool b)] []:=
 BA [3,5,6,8,9] [sp 1 (E8 x),st 0 (Q (GJ x)),sp 0 (EY w),sp 0 (BN .i64 (show ¬(k:Int) < (x.kids.length:Int) by omega))]
theorem RT7:Rn 7 a7:=fun _ _ _=>rfl
theorem BzW{s:List UInt8}{x:Tr}{c:Bool}(h25:E 25 [.str s,x.pv] [] (.tuple [.bool false,.bool c]) []){z:Int}:E 7 [.str s,x.pv,I z] [] (.tuple [.nils,I 1]) []:=
 rule RT7 [sp 0 (DD x),st 3 (Q (Bu x)),st 0 (Fy (σ:=[]) (vs:=[.str s,x.pv]) (r':=.tuple [.bool false,.bool c]) h25 (by simp) (by simp) (by simp) (by simp))]
theorem BzV{s:List UInt8}{x:Tr}{c:Bool}(h25:E 25 [.str s,x.pv] [] (.tuple [.bool true,.bool c]) []){q:List Tr}(h13:E 13 [x.pv] [] (.slice false 5 (Tr.pvs q)) []){z:Int}(hz:z<0):E 7 [.str s,x.pv,I z] [] (.tuple [.nils,I 7]) []:=
 rule RT7 [sp 0 (DD x),st 3 (Q (Bu x)),st 0 (Fy (σ:=[]) (vs:=[.str s,x.pv]) (r':=.tuple [.bool true,.bool c]) h25 (by simp) (by simp) (by simp) (by simp)),st 8 (Q (Bu x)),st 0 (oC h13),sp 2 (AQ .i64 hz)]
theorem BzU{s:List UInt8}{x:Tr}{c:Bool}(h25:E 25 [.str s,x.pv] [] (.tuple [.bool true,.bool c]) []){q:List Tr}(h13:E 13 [x.pv] [] (.slice false 5 (Tr.pvs q)) []){z:Int}(hz:¬z<0)(hq:z≥(q.length:Int)):E 7 [.str s,x.pv,I z] [] (.tuple [.nils,I 7]) []:=
 rule RT7 [sp 0 (DD x),st 3 (Q (Bu x)),st 0 (Fy (σ:=[]) (vs:=[.str s,x.pv]) (r':=.tuple [.bool true,.bool c]) h25 (by simp) (by simp) (by simp) (by simp)),st 8 (Q (Bu x)),st 0 (oC h13),sp 2 (BN .i64 hz),sq 3 (FZ false 5 q),sq 0 (KZ .i64 hq)]
theorem BzT{s:List UInt8}{x:Tr}{c:Bool}(h25:E 25 [.str s,x.pv] [] (.tuple [.bool true,.bool c]) []){q:List Tr}(h13:E 13 [x.pv] [] (.slice false 5 (Tr.pvs q)) []){U:Tr}{k:Nat}{r:List PV}(hU:q[k]?=some U)(hk:k<q.length)(h26:E 26 [.str s,U.pv] [] (.slice false 4 r) []):E 7 [.str s,x.pv,N k] [] (.tuple [.slice false 4 r,I 0]) []:=
 rule RT7 [sp 0 (DD x),st 3 (Q (Bu x)),st 0 (Fy (σ:=[]) (vs:=[.str s,x.pv]) (r':=.tuple [.bool true,.bool c]) h25 (by simp) (by simp) (by simp) (by simp)),st 8 (Q (Bu x)),st 0 (oC h13),sp 2 (BN .i64 (show ¬(k:Int) < 0 by omega)),sq 3 (FZ false 5 q),sq 0 (LQ .i64 (show ¬(k:Int)≥(q.length:Int) by omega)),sp 5 (Gn (o:=false) (s:=5) k hU),st 0 (Q (Bu U)),st 0 (oC h26)]
theorem RT9:Rn 9 a9:=fun _ _ _=>rfl
theorem BzS{s:List UInt8}{x:Tr}{c:Bool}(h25:E 25 [.str s,x.pv] [] (.tuple [.bool false,.bool c]) []):E 9 [.str s,x.pv] [] (.tuple [.str [],I 1]) []:=
 rule RT9 [sp 0 (DD x),st 3 (Q (Bu x)),st 0 (Fy (σ:=[]) (vs:=[.str s,x.pv]) (r':=.tuple [.bool false,.bool c]) h25 (by simp) (by simp) (by simp) (by simp))]
theorem BzR{s:List UInt8}{x:Tr}{c:Bool}(h25:E 25 [.str s,x.pv] [] (.tuple [.bool true,.bool c]) []):E 9 [.str s,x.pv] [] (.tuple [.str s,I 0]) []:=
 rule RT9 [sp 0 (DD x),st 3 (Q (Bu x)),st 0 (Fy (σ:=[]) (vs:=[.str s,x.pv]) (r':=.tuple [.bool true,.bool c]) h25 (by simp) (by simp) (by simp) (by simp))]
end Go.Abs.Z

namespace Go.Abs.Z
open Go.Proofs Go.RowKit
set_option linter.unusedVariables false
mutual
def Tr.eqv:Tr→Tr→Bool
 |.mk k t a e _ ks,.mk k' t' a' e' _ ks'=>decide (k=k')&&(decide (t=t')&&(decide (a=a')&&(decide (e=e')&&LM ks ks')))
def LM:List Tr→List Tr→Bool
 |[],[]=>true
 |x::xs,y::ys=>x.eqv y&&LM xs ys
 |[],_::_=>false
 |_::_,[]=>false
end
mutual

def Tr.bare:Tr→Tr
 |.mk k t a e _ ks=>.mk k t a e false (Gu ks)
def Gu:List Tr→List Tr
 |[]=>[]
 |x::xs=>x.bare::Gu xs
end
mutual
theorem RN:∀A B:Tr,A.eqv B=true↔A.bare=B.bare
 |.mk k t a e n ks,.mk k' t' a' e' n' ks'=>by
  have h:=Ub ks ks';simp only[Tr.eqv,Tr.bare,Ai,decide_eq_true_eq,Tr.mk.injEq,h,true_and]
theorem Ub:∀xs ys:List Tr,LM xs ys=true↔Gu xs=Gu ys
 |[],[]=>by simp[LM,Gu]
 |x::xs,y::ys=>by simp only[LM,Gu,Ai,List.cons.injEq,RN x y,Ub xs ys]
 |[],_::_=>by simp[LM,Gu]
 |_::_,[]=>by simp[LM,Gu]
end
theorem Nz:∀xs:List Tr,Gu xs=xs.map Tr.bare
 |[]=>rfl
 |x::xs=>by rw[Gu,Nz xs];rfl
theorem yG(x:Tr):x.bare.st=x.st∧x.bare.en=x.en∧x.bare.kind=x.kind:=by cases x;exact⟨rfl,rfl,rfl⟩
mutual
theorem su:∀x:Tr,x.bare.ins↔x.ins
 |.mk k t a e n ks=>Np ks a e
theorem Np:∀(xs:List Tr) (a e:Int),OB a e (Gu xs)↔OB a e xs
 |[],_,_=>Iff.rfl
 |x::xs,a,e=>by
  obtain⟨h1,h2,_⟩:=yG x;simp only[Gu,OB,h1,h2,su x,Np xs]
end
mutual
theorem lY(T:List Tk):∀x:Tr,x.bare.cuts T↔x.cuts T
 |.mk k t a e n ks=>by simp only[Tr.bare,Tr.cuts,LP T ks]
theorem LP(T:List Tk):∀xs:List Tr,Me T (Gu xs)↔Me T xs
 |[]=>Iff.rfl
 |x::xs=>by simp only[Gu,Me,lY T x,LP T xs]
end
mutual
theorem qL:∀x:Tr,x.bare.no2↔x.no2
 |.mk k t a e n ks=>by simp only[Tr.bare,Tr.no2,Nk ks]
theorem Nk:∀xs:List Tr,NI (Gu xs)↔NI xs
 |[]=>Iff.rfl
 |x::xs=>by simp only[Gu,NI,qL x,Nk xs]
end
theorem sW{A A' B:Tr}(h:A.bare=A'.bare):A.eqv B=A'.eqv B:=by
 rw[Bool.eq_iff_iff,RN,RN,h]
theorem mD:∀{xs ys:List Tr},Gu xs=Gu ys→xs.length=ys.length:=fun h=>by
 have:=congrArg List.length h
 rwa [Nz,Nz,Aq,Aq] at this
end Go.Abs.Z

namespace Go.Abs.Z
open PV
open Go.Proofs Go.RowKit
set_option linter.unusedVariables false
set_option linter.unusedSimpArgs false
theorem BzA{A B:Tr}(h1:A.kind≠B.kind):E 60 [A.pv,B.pv] [] (.bool false) []:=
 rule uw [sp 0 (DD A),sp 0 (DD B),sp 1 (EO A),sp 1 (EO B),sp 1 (AX .i64 h1)]
theorem Bz9{A B:Tr}(h1:A.kind=B.kind)(h2:A.text≠B.text):E 60 [A.pv,B.pv] [] (.bool false) []:=
 rule uw [sp 0 (DD A),sp 0 (DD B),sp 1 (EO A),sp 1 (EO B),sp 1 (BJ .i64 h1),sq 1 (Fz A),sq 1 (Fz B),sq 1 (Ip h2)]
theorem Bz8{A B:Tr}(h1:A.kind=B.kind)(h2:A.text=B.text)(h3:A.st≠B.st):E 60 [A.pv,B.pv] [] (.bool false) []:=
 rule uw [sp 0 (DD A),sp 0 (DD B),sp 1 (EO A),sp 1 (EO B),sp 1 (BJ .i64 h1),sq 1 (Fz A),sq 1 (Fz B),sq 1 (Hr h2),sq 2 (EB A),sq 1 (EB B),sq 1 (AX .i64 h3)]
theorem Bz7{A B:Tr}(h1:A.kind=B.kind)(h2:A.text=B.text)(h3:A.st=B.st)(h4:A.en≠B.en):E 60 [A.pv,B.pv] [] (.bool false) []:=
 rule uw [sp 0 (DD A),sp 0 (DD B),sp 1 (EO A),sp 1 (EO B),sp 1 (BJ .i64 h1),sq 1 (Fz A),sq 1 (Fz B),sq 1 (Hr h2),sq 2 (EB A),sq 1 (EB B),sq 1 (BJ .i64 h3),sq 2 (Ji A),sq 1 (Ji B),sq 1 (AX .i64 h4)]
theorem Bz6{A B:Tr}{b:Bool}(h1:A.kind=B.kind)(h2:A.text=B.text)(h3:A.st=B.st)(h4:A.en=B.en)(h:E 119 [A.kp,B.kp,.func 60 [] []] [] (.bool b) []):E 60 [A.pv,B.pv] [] (.bool b) []:=
 rule uw [sp 0 (DD A),sp 0 (DD B),sp 1 (EO A),sp 1 (EO B),sp 1 (BJ .i64 h1),sq 1 (Fz A),sq 1 (Fz B),sq 1 (Hr h2),sq 2 (EB A),sq 1 (EB B),sq 1 (BJ .i64 h3),sq 2 (Ji A),sq 1 (Ji B),sq 1 (BJ .i64 h4),sq 2 (E8 A),sg 0 (Q (GJ A)),sq 0 (E8 B),sg 0 (Q (GJ B)),sg 0 (oC h ⟨by simp<;>rfl,by simp,rfl,rfl⟩)]
theorem AX3{A B:Tr}(wA:A.wf)(wB:B.wf)(h:A.kids.length≠B.kids.length):E 119 [A.kp,B.kp,.func 60 [] []] [] (.bool false) []:=
 rule uy [sp 1 (NY A),sp 0 (EY wA),sp 0 (NY B),sp 0 (EY wB),sp 0 (DU .i64 (show(A.kids.length:Int)≠(B.kids.length:Int) by omega))]
theorem AX2{A B:Tr}(wA:A.wf)(wB:B.wf)(h:A.kids.length=B.kids.length)(l:LL a119 0 [(1,B.kp),(2,func 60 [] []),(15,A.kp),(16,N A.kids.length),(17,N 0)] [] (.exit 0) [] []):E 119 [A.kp,B.kp,.func 60 [] []] [] (.bool true) []:=
 rule uy [sp 1 (NY A),sp 0 (EY wA),sp 0 (NY B),sp 0 (EY wB),sp 0 (DF .i64 (show(A.kids.length:Int)=(B.kids.length:Int) by omega)),sp 1 (NY A),sp 0 (EY wA),sl 1 [1,2,15,16,17] l]
theorem AX1{A B:Tr}(wA:A.wf)(wB:B.wf)(h:A.kids.length=B.kids.length)(l:LL a119 0 [(1,B.kp),(2,func 60 [] []),(15,A.kp),(16,N A.kids.length),(17,N 0)] [] .ret [(6,bool false)] []):E 119 [A.kp,B.kp,.func 60 [] []] [] (.bool false) []:=
 rule uy [sp 1 (NY A),sp 0 (EY wA),sp 0 (NY B),sp 0 (EY wB),sp 0 (DF .i64 (show(A.kids.length:Int)=(B.kids.length:Int) by omega)),sp 1 (NY A),sp 0 (EY wA),sl 1 [1,2,15,16,17] l]
theorem yU{A B U V:Tr}{j:Nat}(wA:A.wf)(wB:B.wf)(hj:j<A.kids.length)(hU:A.kids[j]?=some U)(hV:B.kids[j]?=some V)(h:E 60 [U.pv,V.pv] [] (.bool true) [])(l:j<2000000000){e:Cu}{ff1:FF}{σ1:Sto}(hl:LL a119 0 [(1,B.kp),(2,func 60 [] []),(15,A.kp),(16,N A.kids.length),(17,N (j+1))] [] e ff1 σ1):LL a119 0 [(1,B.kp),(2,func 60 [] []),(15,A.kp),(16,N A.kids.length),(17,N j)] [] e ff1 σ1:=
 BM [1,2,15,16,17] [sp 0 (AQ .i64 (show(j:Int) < (A.kids.length:Int) by omega)),sp 2 (IV j wA hU),st 0 (Q (Bu U)),sp 2 (BF U),sp 0 (NY B),sp 1 (IV j wB hV),st 0 (Q (Bu V)),sp 1 (BF V),st 1 (Q (Bu U)),st 0 (Q (Bu V)),st 0 (Jy h rfl (by simp) (by simp) (by simp) rfl rfl:Bh pur run (.w .calld) [.func 60 [] [],U.pv,V.pv] [] [some (.bool true)] []),sp 2 (AB j 1 l)] hl
theorem AX0{A B U V:Tr}{j:Nat}(wA:A.wf)(wB:B.wf)(hj:j<A.kids.length)(hU:A.kids[j]?=some U)(hV:B.kids[j]?=some V)(h:E 60 [U.pv,V.pv] [] (.bool false) []):LL a119 0 [(1,B.kp),(2,func 60 [] []),(15,A.kp),(16,N A.kids.length),(17,N j)] [] .ret [(6,bool false)] []:=
 BA [6] [sp 0 (AQ .i64 (show(j:Int) < (A.kids.length:Int) by omega)),sp 2 (IV j wA hU),st 0 (Q (Bu U)),sp 2 (BF U),sp 0 (NY B),sp 1 (IV j wB hV),st 0 (Q (Bu V)),sp 1 (BF V),st 1 (Q (Bu U)),st 0 (Q (Bu V)),st 0 (Jy h rfl (by simp) (by simp) (by simp) rfl rfl:Bh pur run (.w .calld) [.func 60 [] [],U.pv,V.pv] [] [some (.bool false)] [])]
theorem AQZ{A B:Tr}{j:Nat}(hj:¬j<A.kids.length):LL a119 0 [(1,B.kp),(2,func 60 [] []),(15,A.kp),(16,N A.kids.length),(17,N j)] [] (.exit 0) [] []:=
 BA [] [sp 0 (BN .i64 (show ¬(j:Int) < (A.kids.length:Int) by omega))]
end Go.Abs.Z

namespace Go.Abs.Z
open Go.Proofs Go.RowKit
set_option linter.unusedVariables false
def Tr.atP:Tr→List Nat→Option Tr
 |T,[]=>some T
 |T,i::p=>match T.kids[i]? with
  |some k=>k.atP p
  |none=>none
theorem tZ{T K:Tr}{i:Nat}{p:List Nat}(h:T.kids[i]?=some K):T.atP (i::p)=K.atP p:=by rw[Tr.atP,h]
theorem Tz{T K:Tr}{i:Nat}(w:T.wf)(h:T.kids[i]?=some K):K.wf:=by
 obtain⟨k,t,a,e,n,ks⟩:=T;exact Tr.iD w.2 K (Au h)
theorem bR{T:Tr}(w:T.wf)(hT:T.nds.length≤400000){p:List PV}(hp:p.length+1≤Bn):∀(l:List Tr) (i n:Nat),T.kids.drop i=l→n<(Fa l).length→
  ∃j K m,T.kids[j]?=some K∧m<K.nds.length∧(Fa l)[n]?=K.nds[m]?∧K.nds.length≤(Fa l).length∧
   LL a21 1 [(1,some (N n)),(2,some T.pv),(6,some (Bw 1 p)),(23,some T.kp),(24,some (N T.kids.length)),(25,some (N i))] [] (.exit 2) [(1,some (N m)),(2,some K.pv),(6,some (Bw 1 (p++[N j])))] []
 |[],i,n,hd,hn=>by simp[Fa] at hn
 |K::l,i,n,hd,hn=>by
  have hi:T.kids[i]?=some K:=by
   have:=congrArg List.head? hd
   rwa [List.head?_drop,List.head?_cons] at this
  have hil:i<T.kids.length:=(Ad.1 hi).1;have hk:=Px T.kids;have hn2:=Pk T;rw[Fa,Af] at hn;have hKl:K.nds.length≤(Fa T.kids).length:=rG (Au hi);have h7:=e7n (Tz w hi) (by omega)
  by_cases hc:n<K.nds.length
  ·refine⟨i,K,n,hi,hc,?_,by rw[Fa,Af];omega,BzK w hil hi h7 hc hp⟩
   rw[Fa,Ak hc]
  ·have hll:(Fa l).length≤(Fa T.kids).length:=by
    have:∀(xs:List Tr) (i:Nat),(Fa (xs.drop i)).length≤(Fa xs).length:=by
     intro xs
     induction xs with
     |nil=>intro i;simp
     |cons x xs ih=>
      intro i;cases i with
      |zero=>exact Ag _
      |succ i=>have:=ih i;rw[Ed,Fa,Af];omega
    have h2:T.kids.drop (i+1)=l:=by rw[←List.tail_drop,hd];rfl
    rw[←h2];exact this _ _
   obtain⟨j,K',m,g1,g2,g3,g4,g5⟩:=bR w hT hp l (i+1) (n - K.nds.length) (by rw[←List.tail_drop,hd];rfl) (by omega)
   refine⟨j,K',m,g1,g2,?_,by rw[Fa,Af];omega,BzJ w hil (by omega) hi h7 (by omega) (by omega) g5⟩
   rw[Fa,Ao (by omega)];exact g3
theorem VQ:∀(c:Nat) (T:Tr) (n:Nat) (q:List Nat),T.nds.length≤c→T.wf→n<T.nds.length→q.length+T.nds.length≤400000→
  ∃p U,T.atP p=some U∧T.nds[n]?=some U∧p.length≤T.nds.length∧
   LL a21 0 [(1,some (N n)),(2,some T.pv),(6,some (Bw 1 (q.map N)))] [] (.exit 0) [(1,some (N 0)),(2,some U.pv),(6,some (Bw 1 ((q++p).map N)))] []
 |0,T,n,q,hc,w,hn,hq=>by omega
 |c+1,T,n,q,hc,w,hn,hq=>by
  cases n with
  |zero=>
   refine⟨[],T,rfl,by cases T;rfl,CR _,?_⟩
   rw[Az];exact BzH
  |succ n=>
   have hk:=Pk T;obtain⟨j,K,m,g1,g2,g3,g4,g5⟩:=bR (p:=q.map N) w (by omega) (by rw[Aq];unfold Bn;omega) T.kids 0 n rfl (by omega)
   obtain⟨p,U,h1,h2,h3,h4⟩:=VQ c K m (q++[j]) (by omega) (Tz w g1) g2 (by simp;omega)
   refine⟨j::p,U,by rw[tZ g1,h1],?_,by rw[Al];omega,?_⟩
   ·have:T.nds[n+1]?=(Fa T.kids)[n]?:=by cases T;rfl
    rw[this,g3,h2]
   ·have e:(q++j::p).map N=(q++[j]++p).map N:=by rw[AP];rfl
    have e2:(q++[j]).map N=q.map N++[N j]:=by rw[Ca];rfl
    rw[e2] at h4;rw[e];exact BzI w (by omega) (by omega) g5 h4
theorem Bv7{T:Tr}{n:Nat}(w:T.wf)(hT:T.nds.length≤400000)(hn:n<T.nds.length):∃p U,T.atP p=some U∧T.nds[n]?=some U∧p.length≤400000∧E 21 [T.pv,N n] [] (.tuple [BG 1 (p.map N),.bool true]) []:=by
 obtain⟨p,U,h1,h2,h3,h4⟩:=VQ _ T n [] (Ag _) w hn (by simpa using hT)
 exact⟨p,U,h1,h2,by omega,y22 hn (e7n w hT) h4⟩
theorem cO{U:Tr}{P:List Nat}(hP:P.length≤400000):∀(r:List Nat) (j:Nat) (T:Tr),P.drop j=r→T.wf→T.atP r=some U→
  LL a22 0 [(2,some T.pv),(4,some (.agg [I 0,.str [],I 0,I 0,.nils])),(8,some (BG 1 (P.map N))),(9,some (N P.length)),(10,some (N j))] [] (.exit 0) [(2,some U.pv),(4,some (.agg [I 0,.str [],I 0,I 0,.nils]))] []
 |[],j,T,hd,w,h=>by
  cases h;exact BzF (by rw[AZ] at hd;omega)
 |i::r,j,T,hd,w,h=>by
  have hi:P[j]?=some i:=by
   have:=congrArg List.head? hd
   rwa [List.head?_drop,List.head?_cons] at this
  have hj:j<P.length:=(Ad.1 hi).1;rw[Tr.atP] at h
  split at h
  ·rename_i K hK;exact BzG w hj hi (Ad.1 hK).1 hK (by omega) (cO hP r (j+1) K (by rw[←List.tail_drop,hd];rfl) (Tz w hK) h)
  ·cases h
theorem Bv6{T U:Tr}{p:List Nat}(w:T.wf)(hp:p.length≤400000)(h:T.atP p=some U):E 22 [T.pv,BG 1 (p.map N)] [] (.tuple [U.pv,.bool true]) []:=
 y23 (cO hp p 0 T rfl w h)
section
variable{s:Str}{T:Tr}{ts:List Tk}{D:List PV}(w:T.wf)(hT:T.nds.length≤400000)(hl:ts.length≤1000000000)
 (h5:E 58 [.str s] [] (.tuple [T.pv,BG 5 D,I 0]) []) (h6:E 59 [.str s] [] (.tuple [.slice false 4 (ts.map Tk.pv),I 0]) [])
include w hT hl h5 h6
end
end Go.Abs.Z

namespace Go.Abs.Z
open Go.Proofs Go.RowKit
set_option linter.unusedVariables false
theorem Gx{α:Type}{l r:List α}{x:α}{j:Nat}(h:l.drop j=x::r):l[j]?=some x∧l.drop (j+1)=r:=by
 refine⟨?_,by rw[←List.tail_drop,h];rfl⟩
 have:=congrArg List.head? h
 rwa [List.head?_drop,List.head?_cons] at this
theorem dB{A B:Tr}(wA:A.wf)(wB:B.wf)(hb:A.kids.length<2000000000)
  (hE:∀(i:Nat) (U V:Tr),A.kids[i]?=some U→B.kids[i]?=some V→E 60 [U.pv,V.pv] [] (.bool (U.eqv V)) []):∀(xs ys:List Tr) (j:Nat),xs.length=ys.length→A.kids.drop j=xs→B.kids.drop j=ys→
  (LM xs ys=true→LL a119 0 [(1,some B.kp),(2,some (.func 60 [] [])),(15,some A.kp),(16,some (N A.kids.length)),(17,some (N j))] [] (.exit 0) [] [])∧
  (LM xs ys=false→LL a119 0 [(1,some B.kp),(2,some (.func 60 [] [])),(15,some A.kp),(16,some (N A.kids.length)),(17,some (N j))] [] .ret [(6,some (.bool false))] [])
 |[],[],j,hl,hx,hy=>⟨fun _=>AQZ (by rw[AZ] at hx;omega),fun h=>by cases h⟩
 |[],_::_,j,hl,_,_=>by cases hl
 |_::_,[],j,hl,_,_=>by cases hl
 |x::xs,y::ys,j,hl,hx,hy=>by
  obtain⟨h1,h2⟩:=Gx hx;obtain⟨g1,g2⟩:=Gx hy;have hj:=(Ad.1 h1).1;obtain⟨q1,q2⟩:=dB wA wB hb hE xs ys (j+1) (by simpa using hl) h2 g2
  have hE1:=hE j x y h1 g1;cases he:x.eqv y with
  |true=>
   rw[he] at hE1;rw[LM,he,Cy];exact⟨fun h=>yU wA wB hj h1 g1 hE1 (by omega) (q1 h),fun h=>yU wA wB hj h1 g1 hE1 (by omega) (q2 h)⟩
  |false=>
   rw[he] at hE1;rw[LM,he,DJ];exact⟨fun h=>(by cases h),fun _=>AX0 wA wB hj h1 g1 hE1⟩
theorem dA:∀{xs ys:List Tr},xs.length≠ys.length→LM xs ys=false:=fun {xs ys} h=>by
 rw[Dp];intro h';exact h (mD ((Ub xs ys).1 h'))
theorem jQ(A B:Tr):A.eqv B=(decide (A.kind=B.kind)&&(decide (A.text=B.text)&&(decide (A.st=B.st)&&(decide (A.en=B.en)&&LM A.kids B.kids)))):=by cases A;cases B;rfl
theorem AQ3{A B:Tr}(wA:A.wf)(wB:B.wf)(hb:A.kids.length<2000000000)
  (hE:∀(i:Nat) (U V:Tr),A.kids[i]?=some U→B.kids[i]?=some V→E 60 [U.pv,V.pv] [] (.bool (U.eqv V)) []):E 60 [A.pv,B.pv] [] (.bool (A.eqv B)) []:=by
 rw[jQ];by_cases h1:A.kind=B.kind
 ·by_cases h2:A.text=B.text
  ·by_cases h3:A.st=B.st
   ·by_cases h4:A.en=B.en
    ·rw[decide_eq_true h1,decide_eq_true h2,decide_eq_true h3,decide_eq_true h4];simp only[Cy];refine Bz6 h1 h2 h3 h4 ?_
     by_cases hl:A.kids.length=B.kids.length
     ·obtain⟨q1,q2⟩:=dB wA wB hb hE A.kids B.kids 0 hl rfl rfl;cases he:LM A.kids B.kids with
      |true=>exact AX2 wA wB hl (q1 he)
      |false=>exact AX1 wA wB hl (q2 he)
     ·rw[dA hl];exact AX3 wA wB hl
    ·rw[decide_eq_true h1,decide_eq_true h2,decide_eq_true h3,decide_eq_false h4];exact Bz7 h1 h2 h3 h4
   ·rw[decide_eq_true h1,decide_eq_true h2,decide_eq_false h3];exact Bz8 h1 h2 h3
  ·rw[decide_eq_true h1,decide_eq_false h2];exact Bz9 h1 h2
 ·rw[decide_eq_false h1];exact BzA h1
end Go.Abs.Z

namespace Go.Abs.Z
open Go.Proofs Go.RowKit
set_option linter.unusedVariables false
theorem ZR{A B:Tr}(wA:A.wf)(wB:B.wf)(hb:A.kids.length<2000000000)
  (hE:∀(i:Nat) (U V:Tr),A.kids[i]?=some U→B.kids[i]?=some V→E 67 [U.pv,V.pv] [] (.bool (U.eqv V)) []):∀(xs ys:List Tr) (j:Nat),xs.length=ys.length→A.kids.drop j=xs→B.kids.drop j=ys→
  (LM xs ys=true→LL a67 0 [(2,some (.vptr A.pv)),(3,some (.vptr B.pv)),(5,some (N j))] [] (.exit 0) [] [])∧
  (LM xs ys=false→LL a67 0 [(2,some (.vptr A.pv)),(3,some (.vptr B.pv)),(5,some (N j))] [] .ret [(4,some (.bool false))] [])
 |[],[],j,hl,hx,hy=>⟨fun _=>AXU wA (by rw[AZ] at hx;omega),fun h=>by cases h⟩
 |[],_::_,j,hl,_,_=>by cases hl
 |_::_,[],j,hl,_,_=>by cases hl
 |x::xs,y::ys,j,hl,hx,hy=>by
  obtain⟨h1,h2⟩:=Gx hx;obtain⟨g1,g2⟩:=Gx hy;have hj:=(Ad.1 h1).1;obtain⟨q1,q2⟩:=ZR wA wB hb hE xs ys (j+1) (by simpa using hl) h2 g2
  have hE1:=hE j x y h1 g1;cases he:x.eqv y with
  |true=>
   rw[he] at hE1;rw[LM,he,Cy];exact⟨fun h=>yV wA wB hj h1 g1 hE1 (by omega) (q1 h),fun h=>yV wA wB hj h1 g1 hE1 (by omega) (q2 h)⟩
  |false=>
   rw[he] at hE1;rw[LM,he,DJ];exact⟨fun h=>(by cases h),fun _=>AXV wA wB hj h1 g1 hE1⟩
theorem AQ4{A B:Tr}(wA:A.wf)(wB:B.wf)(hb:A.kids.length<2000000000)
  (hE:∀(i:Nat) (U V:Tr),A.kids[i]?=some U→B.kids[i]?=some V→E 67 [U.pv,V.pv] [] (.bool (U.eqv V)) []):E 67 [A.pv,B.pv] [] (.bool (A.eqv B)) []:=by
 rw[jQ];by_cases h1:A.kind=B.kind
 ·by_cases h2:A.text=B.text
  ·by_cases h3:A.st=B.st
   ·by_cases h4:A.en=B.en
    ·rw[decide_eq_true h1,decide_eq_true h2,decide_eq_true h3,decide_eq_true h4];simp only[Cy];by_cases hl:A.kids.length=B.kids.length
     ·obtain⟨q1,q2⟩:=ZR wA wB hb hE A.kids B.kids 0 hl rfl rfl;cases he:LM A.kids B.kids with
      |true=>exact AXX wA wB h1 h2 h3 h4 hl (q1 he)
      |false=>exact AXW wA wB h1 h2 h3 h4 hl (q2 he)
     ·rw[dA hl];exact AXY wA wB h1 h2 h3 h4 hl
    ·rw[decide_eq_true h1,decide_eq_true h2,decide_eq_true h3,decide_eq_false h4];exact AXZ h1 h2 h3 h4
   ·rw[decide_eq_true h1,decide_eq_true h2,decide_eq_false h3];exact AZ0 h1 h2 h3
  ·rw[decide_eq_true h1,decide_eq_false h2];exact AZ1 h1 h2
 ·rw[decide_eq_false h1];exact AZ2 h1
theorem AwI(x:Tr):x.nds≠[]:=by cases x;simp[Tr.nds]
theorem Tf{x:Tr}(w:x.wf)(hn:x.nds.length≤1000000000)(hE:∀k∈x.kids,E 13 [k.pv] [] (.slice false 5 (Tr.pvs k.nds)) []):∀(l:List Tr) (j:Nat) (acc:List Tr),x.kids.drop j=l→(acc++Fa l).length≤1000000000→
  LL a13 0 [(1,some (.vptr x.pv)),(3,some (.slice true 5 (Tr.pvs acc))),(4,some (N j))] [] (.exit 0) [(3,some (.slice true 5 (Tr.pvs (acc++Fa l))))] []
 |[],j,acc,hd,hl=>by
  show LE _ _ _ _ _ [(3,some (.slice true 5 (Tr.pvs (acc++[]))))] _;rw[Az];exact AZ7 w (by rw[AZ] at hd;omega)
 |k::l,j,acc,hd,hl=>by
  obtain⟨h1,h2⟩:=Gx hd;have hj:=(Ad.1 h1).1;have hk:=Px x.kids;have hk2:=Pk x;have e:acc++Fa (k::l)=acc++k.nds++Fa l:=by rw[Fa,AP]
  rw[e] at hl ⊢;have hl':=hl;rw[Af,Af] at hl';exact AZ8 w hj h1 (hE k (Au h1)) (AwI k) (by unfold Bn;omega) (by omega) (Tf w hn hE l (j+1) (acc++k.nds) h2 hl)
mutual
theorem e13:∀x:Tr,x.wf→x.nds.length≤1000000000→E 13 [x.pv] [] (.slice false 5 (Tr.pvs x.nds)) []
 |.mk k t a e n ks,w,hn=>by
  have h:=Tf w hn (Bx4 ks w.2 (by rw[Tr.nds,Al] at hn;omega)) ks 0 [.mk k t a e n ks] rfl (by
   rw[Tr.nds,Al] at hn;rw[Af,DV];omega)
  exact Bj3 h
theorem Bx4:∀xs:List Tr,Tr.wfs xs→(Fa xs).length≤1000000000→∀k∈xs,E 13 [k.pv] [] (.slice false 5 (Tr.pvs k.nds)) []
 |[],_,_,k,h=>by cases h
 |x::xs,w,hn,k,h=>by
  rw[Fa,Af] at hn;rcases AY.1 h with e | h
  ·rw[e];exact e13 x w.1 (by omega)
  ·exact Bx4 xs w.2 (by omega) k h
end
theorem Sn{q:List Tr}(hq:q.length<2000000000):∀(l:List Tr) (j:Nat),q.drop j=l→
  ((∀u∈l,u.text.length≤60)→LL a4 0 [(1,some (I 100)),(5,some (.slice false 5 (Tr.pvs q))),(6,some (N j))] [] (.exit 0) [(1,some (I 100)),(5,some (.slice false 5 (Tr.pvs q)))] [])∧
  (¬(∀u∈l,u.text.length≤60)→LL a4 0 [(1,some (I 100)),(5,some (.slice false 5 (Tr.pvs q))),(6,some (N j))] [] .ret [(4,some (.bool false))] [])
 |[],j,hd=>⟨fun _=>BzX (by rw[AZ] at hd;omega),fun h=>absurd (fun u hu=>by cases hu) h⟩
 |u::l,j,hd=>by
  obtain⟨h1,h2⟩:=Gx hd;have hj:=(Ad.1 h1).1;obtain⟨q1,q2⟩:=Sn hq l (j+1) h2;by_cases hu:u.text.length≤60
  ·exact⟨fun h=>AZ3 hj h1 hu (by omega) (q1 fun v hv=>h v (AA _ hv)),fun h=>AZ3 hj h1 hu (by omega) (q2 fun h'=>h fun v hv=>(AY.1 hv).elim (fun e=>e▸hu) (h' v))⟩
  ·exact⟨fun h=>absurd (h u (AR ..)) hu,fun _=>BzY hj h1 hu⟩
theorem e4{x:Tr}(w:x.wf)(hn:x.nds.length≤1000000000):∃b,E 4 [x.pv,I 100] [] (.bool b) []∧(b=true→x.nds.length≤100):=by
 obtain⟨q1,q2⟩:=Sn (q:=x.nds) (by omega) x.nds 0 rfl
 by_cases h:∀u∈x.nds,u.text.length≤60
 ·exact⟨_,Bj0 (e13 x w hn) (q1 h),fun hb=>by have:=of_decide_eq_true hb;omega⟩
 ·exact⟨false,BzZ (e13 x w hn) (q2 h),fun hb=>by cases hb⟩
theorem VL{q:List Tk}(hq:q.length<2000000000):∀(l:List Tk) (j:Nat),q.drop j=l→
  LL a10 0 [(0,some (BG 4 (q.map Tk.pv))),(1,some (.slice false 4 (q.map Tk.pv))),(5,some (N j))] [] (.exit 0) [] []
 |[],j,hd=>AZ9 (by rw[AZ] at hd;omega)
 |t::l,j,hd=>by
  obtain⟨h1,h2⟩:=Gx hd;exact AZB (Ad.1 h1).1 h1 (by have:=(Ad.1 h1).1;omega) (VL hq l (j+1) h2)
theorem BvD{q:List Tk}(hq:q.length<2000000000):E 10 [BG 4 (q.map Tk.pv),.slice false 4 (q.map Tk.pv)] [] (.bool true) []:=Bj4 (VL hq q 0 rfl)
def inR(x:Tr)(t:Tk):Bool:=if t.k=5 then x.kind==2 else decide (x.st≤(t.a:Nat))&&decide (((t.e:Nat):Int)≤x.en)
theorem e69(t:Tk)(x:Tr):E 69 [t.pv,x.pv] [] (.bool (inR x t)) []:=by
 unfold inR;by_cases h:t.k=5
 ·rw[if_pos h];exact AXT h
 ·rw[if_neg h];by_cases h2:x.st≤(t.a:Nat)
  ·rw[decide_eq_true h2,Cy];exact AXS h h2
  ·rw[decide_eq_false h2,DJ];exact AXR h h2
def bB(x:Tr)(t:Tk):Bool:=inR x t&&!(x.kids.any fun k=>inR k t)
theorem Qu{x:Tr}{ts q:List Tk}{t:Tk}{j:Nat}(w:x.wf)(hk:x.kids.length<2000000000)(ht:ts[j]?=some t):∀(l:List Tr) (k:Nat) (b:Bool),x.kids.drop k=l→
  LL a26 1 [(3,some (.vptr x.pv)),(5,some (.slice true 4 (q.map Tk.pv))),(6,some (.slice false 4 (ts.map Tk.pv))),(8,some (N j)),(9,some (.bool b)),(10,some (N k))] [] (.exit 2)
   [(3,some (.vptr x.pv)),(5,some (.slice true 4 (q.map Tk.pv))),(6,some (.slice false 4 (ts.map Tk.pv))),(8,some (N j)),(9,some (.bool (b&&!(l.any fun k=>inR k t))))] []
 |[],k,b,hd=>by
  rw[List.any_nil,Bool.not_false,Bool.and_true];exact Az2 w (by rw[AZ] at hd;omega)
 |u::l,k,b,hd=>by
  obtain⟨h1,h2⟩:=Gx hd;have hj:=(Ad.1 h1).1;have hE:=e69 t u;rw[List.any_cons];cases hu:inR u t with
  |true=>
   rw[hu] at hE;rw[Bool.true_or,DY,Bool.and_false];have:=Qu (q:=q) w hk ht l (k+1) false h2;rw[DJ] at this;exact Az3 w ht hj h1 (by omega) hE this
  |false=>
   rw[hu] at hE;rw[Cg];exact Az4 w ht hj h1 (by omega) hE (Qu (q:=q) w hk ht l (k+1) b h2)
theorem Qp{x:Tr}{ts:List Tk}(w:x.wf)(hk:x.kids.length<2000000000)(hts:ts.length≤1000000000):∀(l:List Tk) (j:Nat) (q:List Tk),ts.drop j=l→q.length≤j→
  LL a26 0 [(3,some (.vptr x.pv)),(5,some (.slice true 4 (q.map Tk.pv))),(6,some (.slice false 4 (ts.map Tk.pv))),(8,some (N j))] [] (.exit 0) [(5,some (.slice true 4 ((q++l.filter (bB x)).map Tk.pv)))] []
 |[],j,q,hd,hq=>by
  show LE _ _ _ _ _ [(5,some (.slice true 4 ((q++[]).map Tk.pv)))] _;rw[Az];exact AZ4 (by rw[AZ] at hd;omega)
 |t::l,j,q,hd,hq=>by
  obtain⟨h1,h2⟩:=Gx hd;have hj:=(Ad.1 h1).1;have hK:=Qu (q:=q) w hk h1 x.kids 0 (inR x t) rfl;rw[Dy];cases ho:bB x t with
  |true=>
   rw[show(inR x t&&!(x.kids.any fun k=>inR k t))=true from ho] at hK
   rw[if_pos rfl,show q++t::l.filter (bB x)=q++[t]++l.filter (bB x) by rw[AP];rfl]
   exact AZ5 hj h1 (e69 t x) (by omega) (by unfold Bn;omega) hK (Qp w hk hts l (j+1) (q++[t]) h2 (by simp;omega))
  |false=>
   rw[show(inR x t&&!(x.kids.any fun k=>inR k t))=false from ho] at hK
   rw[if_neg (by simp)]
   exact AZ6 hj h1 (e69 t x) (by omega) hK (Qp w hk hts l (j+1) q h2 (by omega))
theorem Bv5{s:List UInt8}{x:Tr}{ts:List Tk}(w:x.wf)(hk:x.kids.length<2000000000)(hts:ts.length≤1000000000)(h:E 68 [.str s] [] (.tuple [.slice false 4 (ts.map Tk.pv),I 0]) []):E 26 [.str s,x.pv] [] (.slice false 4 ((ts.filter (bB x)).map Tk.pv)) []:=by
 have:=Qp w hk hts ts 0 [] rfl (Ag _);rw[Bj] at this;exact Bj1 h this
end Go.Abs.Z

namespace Go.Abs.Z
open PV
open Go.Proofs Go.RowKit
set_option linter.unusedVariables false
set_option linter.unusedSimpArgs false
theorem YX(s:List UInt8)(T:Tr)(ts:List Tk)(w b:Bool):Be (.ext 0) [.tuple [srV s T ts w,.bool b]]=some [some (srV s T ts w)]:=JB 0 rfl ⟨rfl,Jb ..⟩
def asV(p:Nat→Bool):PV:=.agg ((List.range 256).map fun i=>.bool (p i))
theorem AzG:Be (.sti 256) [.hole 256,asV fun i=>i==9||i==32]=some [some (.vptr (asV fun i=>i==9||i==32))]:=by kernel_rfl
theorem yh(L:List PV)(c:UInt8){b:Bool}(h:L[c.toNat]?=some (.bool b)):Be (.ixa 256 1 false) [.vptr (.agg L),.int .u8 (c.toNat:Int)]=some [some (.vptr (.bool b))]:=by
 have hc:=c.toNat_lt
 have hs:sub (.agg L) c.toNat 1 false=some (.bool b):=by
  show(match L[c.toNat]? with
   |some x=>if x.isAgg||x.isSelf then none else some x
   |none=>none)=_
  rw[h];rfl
 have e:ixV 256 1 false (.vptr (.agg L)) (.int .u8 (c.toNat:Int))=some (.vptr (.bool b)):=by
  unfold ixV;dsimp only;rw[if_pos ⟨by omega,by omega⟩,Int.toNat_natCast,FR]
  unfold faV;dsimp only;rw[hs];rfl
 have e2:Be (.ixa 256 1 false) [.vptr (.agg L),.int .u8 (c.toNat:Int)]=(ixV 256 1 false (.vptr (.agg L)) (.int .u8 (c.toNat:Int))).map fun v=>[some v]:=rfl
 rw[e2,e];rfl
theorem AwO(c:UInt8):Be (.ixa 256 1 false) [.vptr (asV fun i=>i==9||i==32),.int .u8 (c.toNat:Int)]=some [some (.vptr (.bool (c.toNat==9||c.toNat==32)))]:=
 yh ((List.range 256).map fun i=>.bool (i==9||i==32)) c (by have:=c.toNat_lt;rw[Am,Fp (by omega),AO])
theorem nV(s:List UInt8)(a:Nat)(h:a≤s.length):Be (.ssl false true) [.str s,N a]=some [some (.str (s.take a))]:=by
 have h0:(0:Int)≤(a:Int):=by omega
 have h1:(a:Int)≤(s.length:Nat):=by omega
 simp[Be,PN,h0,h1,h]
theorem nU(s:List UInt8)(a:Nat)(h:a≤s.length):Be (.ssl true false) [.str s,N a]=some [some (.str (s.drop a))]:=by
 have h0:(0:Int)≤(a:Int):=by omega
 have h1:(a:Int)≤(s.length:Nat):=by omega
 have:(s.drop a).take (s.length - a)=s.drop a:=CS (by rw[AU];omega)
 simp[Be,PN,h0,h1,h,this]
theorem uY(c:UInt8)(s:List UInt8):Be (.ssl true false) [.str (c::s),I 1]=some [some (.str s)]:=nU (c::s) 1 (by rw[Al];omega)
theorem BQ0:Rn 20 a20:=fun _ _ _=>rfl
theorem BzQ{s:List UInt8}{Tq x:Tr}{ts:List Tk}{D:List PV}{w b:Bool}(hw:w=decide ((D.length:Int) > 0))(h5:E 58 [.str s] [] (.tuple [Tq.pv,BG 5 D,I 0]) [])(h6:E 59 [.str s] [] (.tuple [.slice false 4 (ts.map Tk.pv),I 0]) [])(h60:E 60 [Tq.pv,x.pv] [] (.bool b) []):E 20 [.str s,x.pv] [] (.tuple [srV s x ts w,.bool b]) []:=
 Bt BQ0 [sp 0 (DD x),st 3 (Fy (σ:=[]) (vs:=[.str s]) (r':=.tuple [Tq.pv,BG 5 D,I 0]) h5 rfl rfl (by simp) rfl),sp 1 (Gp (l:=[Tq.pv,BG 5 D,I 0]) 0 (v:=Tq.pv) rfl (by simp) (by simp)),sp 0 (Gp (l:=[Tq.pv,BG 5 D,I 0]) 1 (v:=BG 5 D) rfl (by simp) (by simp)),sp 0 (Gp (l:=[Tq.pv,BG 5 D,I 0]) 2 (v:=I 0) rfl (by simp) (by simp)),sp 1 (BF Tq),sp 0 (GI 5 D),st 2 (oC h6),st 6 (Q (Bu x)),sp 1 (GI 5 D),sp 0 (MO 5 D),sp 0 (by rw[hw];rfl:Be (.bin .gtr 0) [N D.length,I 0]=some [some (.bool w)]),sp 0 (tO s x ts w),sg 7 (Q (Bu Tq)),sg 0 (Q (Bu x)),sg 0 (oC h60),sp 1 (AzF s x ts w (.str []) (.int .i64 0) (.str []) (.int .i64 0) (.int .i64 0) .nils .nils (.bool false))] (by simp[Gs,DL,PV.Gi]:(Gm [(4,some (srV s x ts w)),(5,bool b)] [(4,some 8),(5,none)]).bind DL=some (.tuple [srV s x ts w,.bool b]))
theorem RU6:Rn 6 a6:=fun _ _ _=>rfl
theorem RU8:Rn 8 a8:=fun _ _ _=>rfl
theorem BzO{s:List UInt8}{x:Tr}{ts:List Tk}{w:Bool}(h20:E 20 [.str s,x.pv] [] (.tuple [srV s x ts w,.bool false]) []){z:Int}:E 6 [.str s,x.pv,I z] [] (.tuple [.nils,I 1]) []:=
 rule RU6 [sp 0 (DD x),st 3 (Q (Bu x)),st 0 (Fy (σ:=[]) (vs:=[.str s,x.pv]) (r':=.tuple [srV s x ts w,.bool false]) h20 (by simp) (by simp) (by simp) rfl),sp 1 (YX s x ts w false),sp 0 (Gp (l:=[srV s x ts w,.bool false]) 1 (v:=.bool false) rfl (by simp) rfl),sp 1 (Sa s x ts w)]
theorem AX8{s:List UInt8}{x:Tr}{ts:List Tk}{w:Bool}(h20:E 20 [.str s,x.pv] [] (.tuple [srV s x ts w,.bool true]) []){z:Int}(h21:E 21 [x.pv,I z] [] (.tuple [.nils,.bool false]) []):E 6 [.str s,x.pv,I z] [] (.tuple [.nils,I 7]) []:=
 rule RU6 [sp 0 (DD x),st 3 (Q (Bu x)),st 0 (Fy (σ:=[]) (vs:=[.str s,x.pv]) (r':=.tuple [srV s x ts w,.bool true]) h20 (by simp) (by simp) (by simp) rfl),sp 1 (YX s x ts w true),sp 0 (Gp (l:=[srV s x ts w,.bool true]) 1 (v:=.bool true) rfl (by simp) rfl),sp 1 (Sa s x ts w),st 4 (Q (Bu x)),st 1 (Fy (σ:=[]) (vs:=[x.pv,I z]) (r':=.tuple [.nils,.bool false]) h21 (by simp) (by simp) rfl rfl)]
theorem BzL{s:List UInt8}{x:Tr}{ts:List Tk}{w:Bool}(h20:E 20 [.str s,x.pv] [] (.tuple [srV s x ts w,.bool false]) []):E 8 [.str s,x.pv] [] (.tuple [.str [],I 1]) []:=
 rule RU8 [sp 0 (DD x),st 3 (Q (Bu x)),st 0 (Fy (σ:=[]) (vs:=[.str s,x.pv]) (r':=.tuple [srV s x ts w,.bool false]) h20 (by simp) (by simp) (by simp) rfl),sp 1 (YX s x ts w false),sp 0 (Gp (l:=[srV s x ts w,.bool false]) 1 (v:=.bool false) rfl (by simp) rfl),sp 1 (Sa s x ts w)]
theorem BxF:Rn 21 a21:=fun _ _ _=>rfl
theorem AXF{x:Tr}{z:Int}(hz:z<0):E 21 [x.pv,I z] [] (.tuple [.nils,.bool false]) []:=
 rule BxF [sp 0 (Y7 x),sp 3 (AQ .i64 hz)]
theorem AXE{x:Tr}{z:Int}{c:Nat}(hz:¬z<0)(hc:z≥(c:Int))(h61:E 61 [x.pv] [] (N c) []):E 21 [x.pv,I z] [] (.tuple [.nils,.bool false]) []:=
 rule BxF [sp 0 (Y7 x),sp 3 (BN .i64 hz),sq 2 (Ep x),sg 0 (oC h61),sq 0 (KZ .i64 hc)]
theorem uz:Rn 125 UF:=fun _ _ _=>rfl
theorem BwX:Rn 73 a73:=fun _ _ _=>rfl
theorem BwZ:Rn 28 a28:=fun _ _ _=>rfl
theorem mU{s:List UInt8}:LL UF 0 [(0,str s),(1,int .u8 10),(5,I (-1))] [] (.exit 0) [] []:=
 BA [] []
theorem Az1  : E 125 [.str [],.int .u8 10] [] (I (-1)) []:=
 rule uz [sl 5 [0,1,5] (mU (s:=[]))]
theorem Az0{s:List UInt8}(h:1≤s.length)(l:s.length<2000000000)(L1:LL UF 0 [(0,str s),(1,int .u8 10),(5,N (s.length - 1))] [] (.exit 0) [] []):E 125 [.str s,.int .u8 10] [] (I (-1)) []:=
 rule uz [sp 3 (Dl s.length 1 h l),sl 1 [0,1,5] L1]
theorem AxZ{s:List UInt8}{k:Nat}(h:1≤s.length)(l:s.length<2000000000)(L1:LL UF 0 [(0,str s),(1,int .u8 10),(5,N (s.length - 1))] [] .ret [(4,N k)] []):E 125 [.str s,.int .u8 10] [] (N k) []:=
 rule uz [sp 3 (Dl s.length 1 h l),sl 1 [0,1,5] L1]
theorem AxY{s:List UInt8}{k:Nat}{c:UInt8}(g:s[k]?=some c)(hc:(c.toNat:Int)=10):LL UF 0 [(0,str s),(1,int .u8 10),(5,N k)] [] .ret [(4,N k)] []:=
 BA [4] [sp 1 (KZ .i64 (show(k:Int)≥0 by omega)),sp 3 (Bg s k c g),sp 1 (BJ .u8 hc)]
theorem mR{s:List UInt8}{k:Nat}{c:UInt8}(g:s[k]?=some c)(hc:(c.toNat:Int)≠10)(hk:1≤k)(l:k<2000000000){e:Cu}{ff1:FF}{σ1:Sto}(hl:LL UF 0 [(0,str s),(1,int .u8 10),(5,N (k - 1))] [] e ff1 σ1):LL UF 0 [(0,str s),(1,int .u8 10),(5,N k)] [] e ff1 σ1:=
 BM [0,1,5] [sp 1 (KZ .i64 (show(k:Int)≥0 by omega)),sp 3 (Bg s k c g),sp 1 (AX .u8 hc),sp 2 (Dl k 1 hk l)] hl
theorem AxX{s:List UInt8}{c:UInt8}(g:s[0]?=some c)(hc:(c.toNat:Int)≠10){e:Cu}{ff1:FF}{σ1:Sto}(hl:LL UF 0 [(0,str s),(1,int .u8 10),(5,I (-1))] [] e ff1 σ1):LL UF 0 [(0,str s),(1,int .u8 10),(5,N 0)] [] e ff1 σ1:=
 BM [0,1,5] [sp 1 (KZ .i64 (show(0:Int)≥0 by omega)),sp 3 (Bg s 0 c g),sp 1 (AX .u8 hc)] hl
theorem AxV{s:List UInt8}{z:Int}(h:E 125 [.str s,.int .u8 10] [] (I z) []):E 73 [.str s,.int .u8 10] [] (I z) []:=
 rule BwX [st 3 (oC h)]
theorem AxW{s:List UInt8}{a b:Nat}{z:Int}(ha:a≤s.length)(h:E 73 [.str (s.take a),.int .u8 10] [] (I z) [])(hz:Be (.bin .add 0) [I z,I 1]=some [some (N b)]):E 28 [.str s,N a] [] (N b) []:=
 rule BwZ [sp 3 (nV s a ha),st 0 (oC h),sp 0 hz]
theorem BwW:Rn 75 a75:=fun _ _ _=>rfl
theorem AxU  {e:Cu} {ff1:FF} {σ1:Sto} (hl:LL a75 0 [(0,str [9,32]),(2,some (asV fun i=>i==9)),(4,N 1)] [] e ff1 σ1):LL a75 0 [(0,str [9,32]),(2,some (asV fun _=>false)),(4,N 0)] [] e ff1 σ1:=
 BM [0,2,4] [] hl
theorem AxT  {e:Cu} {ff1:FF} {σ1:Sto} (hl:LL a75 0 [(0,str [9,32]),(2,some (asV fun i=>i==9||i==32)),(4,N 2)] [] e ff1 σ1):LL a75 0 [(0,str [9,32]),(2,some (asV fun i=>i==9)),(4,N 1)] [] e ff1 σ1:=
 BM [0,2,4] [] hl
theorem AX7  : LL a75 0 [(0,str [9,32]),(2,some (asV fun i=>i==9||i==32)),(4,N 2)] [] (.exit 0) [(0,str [9,32]),(2,some (asV fun i=>i==9||i==32))] []:=
 BA [0,2] []
theorem BzN  : E 75 [.str [9,32]] [] (.tuple [(asV fun i=>i==9||i==32),.bool true]) []:=
 rule BwW [sl 3 [0,2,4] (AxU (AxT AX7))]
theorem BxG:Rn 126 BwN:=fun _ _ _=>rfl
theorem AXN(c:UInt8):E 126 [.vptr (asV fun i=>i==9||i==32),.int .u8 (c.toNat:Int)] [] (.bool (c.toNat==9||c.toNat==32)) []:=
 rule BxG [sp 4 (AwO c)]
theorem BwV:Rn 76 a76:=fun _ _ _=>rfl
theorem BzM{s r:List UInt8}(L1:LL a76 0 [(0,str s),(1,vptr (asV fun i=>i==9||i==32))] [] (.exit 0) [(0,str r),(1,vptr (asV fun i=>i==9||i==32))] []):E 76 [.str s,.vptr (asV fun i=>i==9||i==32)] [] (.str r) []:=
 rule BwV [sl 1 [0,1] L1]
theorem AX4  : LL a76 0 [(0,str []),(1,vptr (asV fun i=>i==9||i==32))] [] (.exit 0) [(0,str []),(1,vptr (asV fun i=>i==9||i==32))] []:=
 BA [0,1] []
theorem AX5{s:List UInt8}{c:UInt8}(h:E 126 [.vptr (asV fun i=>i==9||i==32),.int .u8 (c.toNat:Int)] [] (.bool false) []):LL a76 0 [(0,str (c::s)),(1,vptr (asV fun i=>i==9||i==32))] [] (.exit 0) [(0,str (c::s)),(1,vptr (asV fun i=>i==9||i==32))] []:=
 BA [0,1] [sp 2 (CX .i64 (show(((c::s).length:Nat):Int) > 0 by rw[Al];omega)),sp 3 (Bg (c::s) 0 c rfl),st 0 (Ct (vs:=[.vptr (asV fun i=>i==9||i==32),.int .u8 (c.toNat:Int)]) (zs:=[.vptr (asV fun i=>i==9||i==32),.int .u8 (c.toNat:Int)]) (h:E 126 _ [] (.bool false) []) rfl rfl rfl rfl)]
theorem AX6{s:List UInt8}{c:UInt8}(h:E 126 [.vptr (asV fun i=>i==9||i==32),.int .u8 (c.toNat:Int)] [] (.bool true) []){e:Cu}{ff1:FF}{σ1:Sto}(hl:LL a76 0 [(0,str s),(1,vptr (asV fun i=>i==9||i==32))] [] e ff1 σ1):LL a76 0 [(0,str (c::s)),(1,vptr (asV fun i=>i==9||i==32))] [] e ff1 σ1:=
 BM [0,1] [sp 2 (CX .i64 (show(((c::s).length:Nat):Int) > 0 by rw[Al];omega)),sp 3 (Bg (c::s) 0 c rfl),st 0 (Ct (vs:=[.vptr (asV fun i=>i==9||i==32),.int .u8 (c.toNat:Int)]) (zs:=[.vptr (asV fun i=>i==9||i==32),.int .u8 (c.toNat:Int)]) (h:E 126 _ [] (.bool true) []) rfl rfl rfl rfl),sp 3 (uY c s)] hl
theorem BxE:Rn 29 a29:=fun _ _ _=>rfl
theorem AXD  : E 29 [.str [],.str [9,32]] [] (.str []) []:=
 rule BxE []
set_option maxRecDepth 100000 in
theorem AXC{s r:List UInt8}(hs:s≠[])(h:E 76 [.str s,.vptr (asV fun i=>i==9||i==32)] [] (.str r) []):E 29 [.str s,.str [9,32]] [] (.str r) []:=
 rule BxE [sp 2 (Ip hs),st 15 (oC BzN ⟨rfl,rfl,rfl,rfl⟩),sp 1 (Gp (l:=[(asV fun i=>i==9||i==32),.bool true]) 0 (v:=(asV fun i=>i==9||i==32)) rfl rfl rfl),sp 0 (Gp (l:=[(asV fun i=>i==9||i==32),.bool true]) 1 (v:=.bool true) rfl rfl rfl),sp 1 AzG,st 4 (Ct (vs:=[.str s,.vptr (asV fun i=>i==9||i==32)]) h rfl rfl rfl rfl)]
theorem AQP:Rn 11 a11:=fun _ _ _=>rfl
theorem AQO:Rn 12 a12:=fun _ _ _=>rfl
theorem AXQ{s:List UInt8}{z:Int}(hz:z<0):E 11 [.str s,I z] [] (.str []) []:=
 rule AQP [sp 2 (AQ .i64 hz)]
theorem AXP{s:List UInt8}{z:Int}(hz:¬z<0)(hl:z>(s.length:Int)):E 11 [.str s,I z] [] (.str []) []:=
 rule AQP [sp 2 (BN .i64 hz),sq 4 (CX .i64 hl)]
theorem AXO{s r:List UInt8}{a b:Nat}(ha:a≤s.length)(h28:E 28 [.str s,N a] [] (N b) [])(hb:b≤s.length)(h29:E 29 [.str (s.drop b),.str [9,32]] [] (.str r) [])(hr:r.length≤(s.drop b).length)(l:s.length<2000000000):E 11 [.str s,N a] [] (.str ((s.drop b).take ((s.drop b).length - r.length))) []:=
 rule AQP [sp 2 (BN .i64 (show ¬(a:Int) < 0 by omega)),sq 4 (DI .i64 (show ¬(a:Int) > (s.length:Int) by omega)),st 5 (oC h28),sp 0 (nU s b hb),st 5 (oC h29),sp 1 (Dl (s.drop b).length r.length hr (by rw[AU];omega)),sp 0 (nV (s.drop b) ((s.drop b).length - r.length) (Nat.sub_le ..))]
theorem AXM{s:List UInt8}{z:Int}(hz:z<0):E 12 [.str s,I z] [] (.str []) []:=
 rule AQO [sp 2 (AQ .i64 hz)]
theorem AXL{s:List UInt8}{z:Int}(hz:¬z<0)(hl:z>(s.length:Int)):E 12 [.str s,I z] [] (.str []) []:=
 rule AQO [sp 2 (BN .i64 hz),sq 4 (CX .i64 hl)]
theorem AXK{s:List UInt8}{a b k:Nat}(ha:a≤s.length)(h30:E 30 [.str s,N a] [] (N b) [])(h1:b≤k)(h2:k≤s.length)(L1:LL a12 0 [(0,str s),(5,N b),(6,N b)] [] (.exit 0) [(0,str s),(5,N b),(6,N k)] []):E 12 [.str s,N a] [] (.str ((s.drop b).take (k - b))) []:=
 rule AQO [sp 2 (BN .i64 (show ¬(a:Int) < 0 by omega)),sq 4 (DI .i64 (show ¬(a:Int) > (s.length:Int) by omega)),st 4 (oC h30),sl 3 [0,5,6] L1,sp 3 (NU s b k h1 h2)]
theorem AXI{s:List UInt8}{b k:Nat}{c:UInt8}(hk:k<s.length)(g:s[k]?=some c)(hc:(c.toNat:Int)=9)(l:k<2000000000){e:Cu}{ff1:FF}{σ1:Sto}(hl:LL a12 0 [(0,str s),(5,N b),(6,N (k+1))] [] e ff1 σ1):LL a12 0 [(0,str s),(5,N b),(6,N k)] [] e ff1 σ1:=
 BM [0,5,6] [sp 3 (AQ .i64 (show(k:Int) < (s.length:Int) by omega)),sq 3 (Bg s k c g),sq 0 (BJ .u8 hc),sp 9 (AB k 1 l)] hl
theorem AXJ{s:List UInt8}{b k:Nat}{c:UInt8}(hk:k<s.length)(g:s[k]?=some c)(hc:(c.toNat:Int)≠9)(hd:(c.toNat:Int)=32)(l:k<2000000000){e:Cu}{ff1:FF}{σ1:Sto}(hl:LL a12 0 [(0,str s),(5,N b),(6,N (k+1))] [] e ff1 σ1):LL a12 0 [(0,str s),(5,N b),(6,N k)] [] e ff1 σ1:=
 BM [0,5,6] [sp 3 (AQ .i64 (show(k:Int) < (s.length:Int) by omega)),sq 3 (Bg s k c g),sq 0 (AX .u8 hc),sq 3 (Bg s k c g),sq 0 (BJ .u8 hd),sp 4 (AB k 1 l)] hl
theorem AXH{s:List UInt8}{b k:Nat}{c:UInt8}(hk:k<s.length)(g:s[k]?=some c)(hc:(c.toNat:Int)≠9)(hd:(c.toNat:Int)≠32):LL a12 0 [(0,str s),(5,N b),(6,N k)] [] (.exit 0) [(0,str s),(5,N b),(6,N k)] []:=
 BA [0,5,6] [sp 3 (AQ .i64 (show(k:Int) < (s.length:Int) by omega)),sq 3 (Bg s k c g),sq 0 (AX .u8 hc),sq 3 (Bg s k c g),sq 0 (AX .u8 hd)]
theorem AXG{s:List UInt8}{b k:Nat}(hk:¬k<s.length):LL a12 0 [(0,str s),(5,N b),(6,N k)] [] (.exit 0) [(0,str s),(5,N b),(6,N k)] []:=
 BA [0,5,6] [sp 3 (BN .i64 (show ¬(k:Int) < (s.length:Int) by omega))]
theorem BwY:Rn 30 a30:=fun _ _ _=>rfl
theorem BzP{s:List UInt8}{a b:Nat}(L1:LL a30 0 [(0,str s),(1,N a)] [] (.exit 0) [(0,str s),(1,N b)] []):E 30 [.str s,N a] [] (N b) []:=
 rule BwY [sl 1 [0,1] L1]
theorem AXB{s:List UInt8}{a:Nat}{c:UInt8}(ha:1≤a)(l:a<2000000000)(g:s[a - 1]?=some c)(hc:(c.toNat:Int)≠10){e:Cu}{ff1:FF}{σ1:Sto}(hl:LL a30 0 [(0,str s),(1,N (a - 1))] [] e ff1 σ1):LL a30 0 [(0,str s),(1,N a)] [] e ff1 σ1:=
 BM [0,1] [sp 1 (CX .i64 (show(a:Int) > 0 by omega)),sq 3 (Dl a 1 ha l),sq 0 (Bg s (a - 1) c g),sq 0 (DU .u8 hc),sp 3 (Dl a 1 ha l)] hl
theorem AXA{s:List UInt8}{a:Nat}{c:UInt8}(ha:1≤a)(l:a<2000000000)(g:s[a - 1]?=some c)(hc:(c.toNat:Int)=10):LL a30 0 [(0,str s),(1,N a)] [] (.exit 0) [(0,str s),(1,N a)] []:=
 BA [0,1] [sp 1 (CX .i64 (show(a:Int) > 0 by omega)),sq 3 (Dl a 1 ha l),sq 0 (Bg s (a - 1) c g),sq 0 (DF .u8 hc)]
theorem AX9{s:List UInt8}:LL a30 0 [(0,str s),(1,N 0)] [] (.exit 0) [(0,str s),(1,N 0)] []:=
 BA [0,1] []
end Go.Abs.Z

namespace Go.Abs.Z
open Go.Proofs Go.RowKit
set_option linter.unusedVariables false
def lst(s:List UInt8):Nat→Nat
 |0=>0
 |a+1=>if s[a]?=some 10 then a+1 else lst s a
theorem fZ(s:List UInt8):∀a,lst s a≤a
 |0=>Ag _
 |a+1=>by
  have:=fZ s a;rw[lst];split<;>omega
theorem bL(s:List UInt8)(n:Nat):∀a,a≤n→lst (s.take n) a=lst s a
 |0,_=>rfl
 |a+1,h=>by
  have e:(s.take n)[a]?=s[a]?:=by rw[Cb,if_pos (by omega)]
  show(if(s.take n)[a]?=some 10 then a+1 else lst (s.take n) a)=if s[a]?=some 10 then a+1 else lst s a
  rw[e,bL s n a (by omega)]
theorem c10{c:UInt8}:((c.toNat:Nat):Int)=10↔c=10:=by
 constructor
 ·intro h;apply UInt8.toNat_inj.1;have:(10:UInt8).toNat=10:=rfl;omega
 ·intro h;subst h;rfl
theorem Sc{s:List UInt8}(hs:s.length<1000000000):∀a,a≤s.length→LL a30 0 [(0,some (.str s)),(1,some (N a))] [] (.exit 0) [(0,some (.str s)),(1,some (N (lst s a)))] []
 |0,_=>AX9
 |a+1,h=>by
  have g:s[a+1 - 1]?=some s[a]:=Ah (by omega)
  rw[lst,Ah (show a<s.length by omega)]
  by_cases hc:s[a]=10
  ·rw[if_pos (by rw[hc])]
   exact AXA (by omega) (by omega) g (c10.2 hc)
  ·rw[if_neg (by simp[hc])]
   exact AXB (by omega) (by omega) g (fun h=>hc (c10.1 h)) (Sc hs a (by omega))
theorem Wt{t:List UInt8}(hs:t.length<1000000000):∀k,k<t.length→
  (lst t (k+1)=0→LL UF 0 [(0,some (.str t)),(1,some (.int .u8 10)),(5,some (N k))] [] (.exit 0) [] [])∧
  (∀m,lst t (k+1)=m+1→LL UF 0 [(0,some (.str t)),(1,some (.int .u8 10)),(5,some (N k))] [] .ret [(4,some (N m))] [])
 |k,h=>by
  have g:t[k]?=some t[k]:=Ah h;rw[lst,g];by_cases hc:t[k]=10
  ·rw[if_pos (by rw[hc])]
   refine⟨fun h=>by omega,fun m hm=>?_⟩
   obtain rfl:k=m:=by omega
   exact AxY g (c10.2 hc)
  ·rw[if_neg (by simp[hc])]
   have hc':((t[k].toNat:Nat):Int)≠10:=fun h=>hc (c10.1 h)
   cases k with
   |zero=>
    refine⟨fun _=>AxX g hc' mU,fun m hm=>?_⟩
    rw[lst] at hm;omega
   |succ k=>
    obtain⟨q1,q2⟩:=Wt hs k (by omega)
    exact⟨fun h=>mR g hc' (by omega) (by omega) (q1 h),fun m hm=>mR g hc' (by omega) (by omega) (q2 m hm)⟩
theorem e28{s:List UInt8}(hs:s.length<1000000000){a:Nat}(ha:a≤s.length):E 28 [.str s,N a] [] (N (lst s a)) []:=by
 have hl:(s.take a).length=a:=by rw[Ba];omega
 have ht:=bL s a a (Ag _);cases a with
 |zero=>exact AxW (z:=-1) ha (AxV Az1) rfl
 |succ k=>
  obtain⟨q1,q2⟩:=Wt (t:=s.take (k+1)) (by omega) k (by omega)
  rw[ht] at q1 q2;cases hm:lst s (k+1) with
  |zero=>
   refine AxW (z:=-1) ha (AxV (Az0 (by omega) (by omega) ?_)) rfl
   rw[hl];exact q1 hm
  |succ m=>
   have:=fZ s (k+1);refine AxW (z:=(m:Nat)) ha (AxV (AxZ (k:=m) (by omega) (by omega) ?_)) (AB m 1 (by omega))
   rw[hl];exact q2 m hm
def bl(c:UInt8):Bool:=c.toNat==9||c.toNat==32
theorem VG:∀s:List UInt8,LL a76 0 [(0,some (.str s)),(1,some (.vptr (asV fun i=>i==9||i==32)))] [] (.exit 0) [(0,some (.str (s.dropWhile bl))),(1,some (.vptr (asV fun i=>i==9||i==32)))] []
 |[]=>AX4
 |c::s=>by
  have h:=AXN c;rw[List.dropWhile_cons];cases hb:bl c with
  |true=>
   rw[show(c.toNat==9||c.toNat==32)=true from hb] at h
   rw[if_pos rfl];exact AX6 h (VG s)
  |false=>
   rw[show(c.toNat==9||c.toNat==32)=false from hb] at h
   rw[if_neg (by simp)]
   exact AX5 h
theorem e29(s:List UInt8):E 29 [.str s,.str [9,32]] [] (.str (s.dropWhile bl)) []:=by
 by_cases hs:s=[]
 ·subst hs;exact AXD
 ·exact AXC hs (BzM (VG s))
theorem Az6(s:List UInt8):(s.takeWhile bl).length+(s.dropWhile bl).length=s.length:=by
 rw[←Af,List.takeWhile_append_dropWhile]
theorem TJ{s:List UInt8}(hs:s.length<1000000000)(b:Nat):∀(r:List UInt8) (k:Nat),s.drop k=r→k≤s.length→
  LL a12 0 [(0,some (.str s)),(5,some (N b)),(6,some (N k))] [] (.exit 0) [(0,some (.str s)),(5,some (N b)),(6,some (N (k+(r.takeWhile bl).length)))] []
 |[],k,hd,hk=>AXG (by rw[AZ] at hd;omega)
 |c::r,k,hd,hk=>by
  obtain⟨g,h2⟩:=Gx hd;have hlt:=(Ad.1 g).1;rw[BV];by_cases h9:c.toNat=9
  ·rw[if_pos (by simp[bl,h9]),Al,show k+((r.takeWhile bl).length+1)=k+1+(r.takeWhile bl).length by omega]
   exact AXI hlt g (by omega) (by omega) (TJ hs b r (k+1) h2 (by omega))
  ·by_cases h32:c.toNat=32
   ·rw[if_pos (by simp[bl,h32]),Al,show k+((r.takeWhile bl).length+1)=k+1+(r.takeWhile bl).length by omega]
    exact AXJ hlt g (by omega) (by omega) (by omega) (TJ hs b r (k+1) h2 (by omega))
   ·rw[if_neg (by simp[bl,h9,h32])]
    exact AXH hlt g (by omega) (by omega)
theorem sD{s:List UInt8}(hs:s.length<1000000000)(z:Int):∃r,E 11 [.str s,I z] [] (.str r) []∧E 12 [.str s,I z] [] (.str r) []:=by
 by_cases hz:z<0
 ·exact⟨[],AXQ hz,AXM hz⟩
 ·by_cases hl:z>((s.length:Nat):Int)
  ·exact⟨[],AXP hz hl,AXL hz hl⟩
  ·obtain⟨a,rfl⟩:∃a:Nat,z=(a:Nat):=⟨z.toNat,by omega⟩
   have ha:a≤s.length:=by omega
   have hb:=fZ s a;have htw:=Az6 (s.drop (lst s a));have hdl:(s.drop (lst s a)).length=s.length - lst s a:=AU;refine⟨_,AXO ha (e28 hs ha) (by omega) (e29 _) (by omega) (by omega),?_⟩
   have h12:=AXK ha (BzP (Sc hs a ha)) (k:=lst s a+((s.drop (lst s a)).takeWhile bl).length) (by omega) (by omega) (TJ hs _ _ _ rfl (by omega))
   rw[show lst s a+((s.drop (lst s a)).takeWhile bl).length - lst s a=(s.drop (lst s a)).length - ((s.drop (lst s a)).dropWhile bl).length by omega] at h12
   exact h12
end Go.Abs.Z

namespace Go.Abs.Z
open Go.Proofs Go.RowKit
set_option linter.unusedVariables false
set_option linter.unusedSimpArgs false
theorem v3a{s:List UInt8}{x:Tr}{z at_:Int}(h:(s.length:Int) > 400):iA a3 [.str s,x.pv,I z,I at_] [] (.bool true) []:=
 o5 [sp 0 (DD x),sp 3 (CX .i64 h),st 6 (Fy (σ:=[]) (vs:=[]) AwX rfl rfl rfl rfl)]
theorem v3b{s:List UInt8}{x:Tr}{z at_:Int}(h:¬(s.length:Int) > 400)(h4:Ev BU 4 [x.pv,I 100] [] (.bool false) []):iA a3 [.str s,x.pv,I z,I at_] [] (.bool true) []:=
 o5 [sp 0 (DD x),sp 3 (DI .i64 h),sg 1 (QA (Bu x)),sg 0 (Fy (σ:=[]) (vs:=[x.pv,I 100]) (r':=.bool false) h4 (by simp) (by simp) rfl rfl),st 3 (Fy (σ:=[]) (vs:=[]) AwX rfl rfl rfl rfl)]
theorem v3c{s:List UInt8}{x:Tr}{z at_:Int}{A C:PV}{e g:Int}{p r:List UInt8}(h:¬(s.length:Int) > 400)(h4:Ev BU 4 [x.pv,I 100] [] (.bool true) [])(hA:A.free=true∧A.flat=true∧A.JG=true∧A.Ae=A)(hB:C.free=true∧C.flat=true∧C.JG=true∧C.Ae=C)(h6:Ev BU 6 [.str s,x.pv,I z] [] (.tuple [A,I e]) [])(h7:Ev BU 7 [.str s,x.pv,I z] [] (.tuple [C,I e]) [])(h8:Ev BU 8 [.str s,x.pv] [] (.tuple [.str p,I g]) [])(h9:Ev BU 9 [.str s,x.pv] [] (.tuple [.str p,I g]) [])(h10:Ev BU 10 [A,C] [] (.bool true) [])(h11:Ev BU 11 [.str s,I at_] [] (.str r) [])(h12:Ev BU 12 [.str s,I at_] [] (.str r) []):iA a3 [.str s,x.pv,I z,I at_] [] (.bool true) []:=
 o5 [sp 0 (DD x),sp 3 (DI .i64 h),sg 1 (QA (Bu x)),sg 0 (Fy (σ:=[]) (vs:=[x.pv,I 100]) (r':=.bool true) h4 (by simp) (by simp) rfl rfl),st 4 (QA (Bu x)),st 1 (Fy (σ:=[]) (vs:=[.str s,x.pv,I z]) (r':=.tuple [A,I e]) h6 (by simp) (by simp) (by simp[hA,hB]) rfl),sp 1 (Gp (l:=[A,I e]) 0 (v:=A) rfl (by simp[hA,hB]) (by simp[hA,hB])),sp 0 (Gp (l:=[A,I e]) 1 (v:=I e) rfl (by simp[hA,hB]) (by simp[hA,hB])),sp 0 (Pm hA.1 hA.2.2.2),st 2 (QA (Bu x)),st 1 (Fy (σ:=[]) (vs:=[.str s,x.pv,I z]) (r':=.tuple [C,I e]) h7 (by simp) (by simp) (by simp[hA,hB]) rfl),sp 1 (Gp (l:=[C,I e]) 0 (v:=C) rfl (by simp[hA,hB]) (by simp[hA,hB])),sp 0 (Gp (l:=[C,I e]) 1 (v:=I e) rfl (by simp[hA,hB]) (by simp[hA,hB])),sp 0 (Pm hB.1 hB.2.2.2),st 2 (QA (Bu x)),st 0 (Fy (σ:=[]) (vs:=[.str s,x.pv]) (r':=.tuple [.str p,I g]) h8 (by simp) (by simp) rfl rfl),st 6 (QA (Bu x)),st 0 (Fy (σ:=[]) (vs:=[.str s,x.pv]) (r':=.tuple [.str p,I g]) h9 (by simp) (by simp) rfl rfl),sp 5 (Pm hA.1 hA.2.2.2),sp 0 (Pm hB.1 hB.2.2.2),st 0 (Fy (σ:=[]) (vs:=[A,C]) (r':=.bool true) h10 (by simp[hA,hB]) (by simp[hA,hB]) rfl rfl),sq 3 (BJ .i64 (rfl:e=e)),sq 4 (Hr (rfl:p=p)),sq 4 (BJ .i64 (rfl:g=g)),sg 4 (Fy (σ:=[]) (vs:=[.str s,I at_]) (r':=.str r) h11 rfl rfl rfl rfl),sg 2 (Fy (σ:=[]) (vs:=[.str s,I at_]) (r':=.str r) h12 rfl rfl rfl rfl),sq 0 (Hr (rfl:r=r)),sg 2 (Fy (σ:=[]) (vs:=[]) AwX rfl rfl rfl rfl)]
end Go.Abs.Z

namespace Go.Abs.Z
set_option linter.unusedVariables false
open Go.Proofs Go.RowKit
theorem uV{s:List UInt8}{ls:List Tk}{m:Nat}(H:CG s ls m){i j:Nat}(h:i≤j)(hj:j≤m):tA ls i≤tA ls j:=by
 rcases Bc i j with hlt | hge
 ·obtain⟨t,ht⟩:=H.at (k:=i) (by omega)
  obtain⟨u,hu⟩:=H.at (k:=j) hj;have:=(H.inc _ _ _ _ ht hu hlt).1;rw[JY ht,JY hu];omega
 ·have:i=j:=by omega
  subst this;exact Ag _
theorem sP{w:Nat→Wd}{k:Nat}{D:List AD}(hD:Dok k D):∀d∈MV w k D,d.i≤k:=by
 unfold MV;split
 ·exact hD.2
 ·intro d hd;rcases Cm.1 hd with hd | hd
  ·exact hD.2 d hd
  ·rw[CK] at hd;subst hd;exact Ag _
theorem yJ{s:List UInt8}{ls:List Tk}{m:Nat}(H:CG s ls m){w:Nat→Wd}{k:Nat}{D:List AD}(hD:Dok k D)(hk:k≤m):Asc (dgs ls (MV w k D)):=by
 have h1:(MV w k D).Pairwise fun a b=>a.i≤b.i:=by
  have h0:D.Pairwise fun a b=>a.i≤b.i:=hD.1.imp fun h=>Dz h
  unfold MV;split
  ·exact h0
  ·refine Et.2 ⟨h0,CB _ _,fun a ha b hb=>?_⟩
   rw[CK] at hb;subst hb;exact hD.2 a ha
 have h2:=sP (w:=w) hD;show((MV w k D).map (dgA ls)).Pairwise _;rw[List.pairwise_map];exact h1.imp_of_mem fun {a b} _ hb h=>uV H h (Bf (h2 _ hb) hk)
theorem VI{s:List UInt8}(_hs:s.length≤4096):(Ch s).length≤s.length+1∧(FX s).length≤s.length+1:=by
 have hsc:(EQ s).length≤s.length+1:=IA (s.length+1) s 0;exact⟨Bf (Dv _ _) hsc,Bf (MM s _) hsc⟩
theorem yz{w:Nat→Wd}{k:Nat}{D:List AD}(hD:Dok k D):(MV w k D).length≤k+2:=by
 have:=hD.small;unfold MV;split
 ·omega
 ·simp;omega
theorem N7{ls:List Tk}(ks:List AT):ks.isEmpty=true→EP ls ks=[]:=by
 intro h;have:=DX.1 h;subst this;rfl
mutual
theorem Az8{ls:List Tk}:∀x:AT,(trP ls x).wf
 |.mk kd tx f k b ks=>⟨fun h=>N7 ks h,WE ks⟩
theorem WE{ls:List Tk}:∀xs:List AT,Tr.wfs (EP ls xs)
 |[]=>trivial
 |x::xs=>⟨Az8 x,WE xs⟩
end
theorem K5{s:List UInt8}{ls:List Tk}{m k:Nat}(H:CG s ls m)(h:k≤m)(h5:(wAt s ls k).1=5):k=m:=by
 rcases Bc k m with h' | h'
 ·obtain⟨t,ht⟩:=H.at h;have:=H.kd k t ht h';rw[Jw ht] at h5
  simp only at h5
  omega
 ·omega
theorem mX{s:List UInt8}{ls:List Tk}{m:Nat}(H:CG s ls m):Wok (wAt s ls) m:=by
 refine⟨H.end',fun k hk h5=>?_⟩
 have:=K5 H hk h5;subst this;rw[H.end']
theorem runs(s:List UInt8)(hs:s.length≤4096)(x:NT)(hx:Oy x)(hb:x≠.br):∃v k D,runN (wAt s (Ch s)) 100000 x 0 []=some (v,k,D):=by
 have H:=JI s;obtain⟨l1,_⟩:=VI hs
 have hr:rk x≤100:=by
  cases x with
  |ex L=>rcases hx with rfl | rfl | rfl | rfl | rfl | rfl<;>decide
  |lp L f y=>rcases hx with rfl | rfl | rfl | rfl<;>simp[rk]
  |_=>simp[rk]
 obtain⟨⟨v,k,D⟩,h⟩:=jc (mX H) 100000 x 0 hx (fun e=>absurd e hb) (by unfold mu;omega) (CR _) [] ⟨List.Pairwise.nil,fun d h=>by cases h⟩
 exact⟨v,k,D,h⟩
theorem wC(s:List UInt8)(hs:s.length≤4096){x:NT}{v:Rs}{k:Nat}{D:List AD}(h:runN (wAt s (Ch s)) 100000 x 0 []=some (v,k,D)):k≤(Ch s).length - 1∧Dok k D∧EI 100000 x 0 v k:=by
 have H:=JI s;obtain⟨c1,c2⟩:=qB (w5 H) 100000 (by omega)
 have hD0:Dok 0 []:=⟨List.Pairwise.nil,fun d h=>by cases h⟩
 obtain⟨o1,o2,o3⟩:=c1 _ _ _ _ h (CR _) hD0;exact⟨o2,o3,c2 _ _ _ _ _ _ h (CR _) hD0⟩
end Go.Abs.Z

namespace Go.Abs.Z
open Go.Proofs Go.RowKit
def qc(s:List UInt8)(ls:List Tk)(k l:Nat)(es:List PV):List PV:=[.str s,.slice true 4 (ls.map Tk.pv),N k,N l,Bw 5 es]
def qd(s:List UInt8)(ls:List Tk)(k l:Nat)(es:List PV):List PV:=[.str s,.slice true 4 (ls.map Tk.pv),N k,N l,BG 5 es]
def y0(s:List UInt8)(v:PV):List PV:=[.str s,v,I 0,I 0,.nils]
section
variable{s:List UInt8}{ls:List Tk}{k l:Nat}{es:List PV}
theorem ldQ:Fq (.ld 1 false) [.ref 0 4] [qc s ls k l es]=some [some (BG 5 es)]:=by cases es<;>rfl
theorem Bj8{j:Nat}:Bh pur run (.w (.st 1)) [.ref 0 2,N j] [qc s ls k l es] [] [qc s ls j l es]:=⟨0,fun _ _=>by cases es<;>rfl⟩
theorem Bj7{j:Nat}:Bh pur run (.w (.st 1)) [.ref 0 3,N j] [qc s ls k l es] [] [qc s ls k j es]:=⟨0,fun _ _=>by cases es<;>rfl⟩
theorem AWS:Bh pur run (.w .ldo) [.ref 0 4] [qc s ls k l es] [some (Bw 5 es)] [qd s ls k l es]:=⟨0,fun _ _=>by cases es<;>rfl⟩
theorem AZO{es':List PV}:Bh pur run (.w .sto) [.ref 0 4,Bw 5 es'] [qd s ls k l es] [some (BG 5 es')] [qc s ls k l es']:=⟨0,fun _ _=>by cases es<;>cases es'<;>rfl⟩
theorem Bk6:Bh pur run (.w .ldo) [.ref 0 1] [y0 s (Bw 4 es)] [some (Bw 4 es)] [y0 s (BG 4 es)]:=⟨0,fun _ _=>by cases es<;>rfl⟩
theorem Bj6{es':List PV}:Bh pur run (.w .sto) [.ref 0 1,Bw 4 es'] [y0 s (BG 4 es)] [some (BG 4 es')] [y0 s (Bw 4 es')]:=⟨0,fun _ _=>by cases es<;>cases es'<;>rfl⟩
end
theorem cB{s:Nat}{es:List PV}{x:PV}(j:Nat)(h:es[j]?=some x):Be (.idx s) [BG s es,.int .i64 (j:Nat)]=some [some (.vptr x)]:=by
 cases es with
 |nil=>simp at h
 |cons e es=>exact SX _ _ _ _ _ h
theorem OU{o:Bool}{X:List Dg}(h:1≤X.length):Be (.vsl 5 true false) [.slice o 5 (X.map Dg.pv),I 1]=some [some (.slice false 5 (X.tail.map Dg.pv))]:=by
 cases X with
 |nil=>simp at h
 |cons d X=>
  have h1:(1:Int)≤((((d::X).map Dg.pv).length:Nat):Int):=by simp;omega
  simp only[Be,if_true,PN];rw[if_pos ⟨by omega,h1⟩]
  simp only[AO];congr 5;show(((d::X).map Dg.pv).drop 1).take (((d::X).map Dg.pv).length - 1)=_;rw[CS (by simp)];rfl
theorem uB:Rn 136 BwJ:=fun _ _ _=>rfl
theorem AQB:E 136 [I 1] [] (.slice false 1 [.str [111,114]]) []:=rule uB []
theorem AQA:E 136 [I 2] [] (.slice false 1 [.str [97,110,100]]) []:=rule uB []
theorem AQ9:E 136 [I 4] [] (.slice false 1 [.str [61,61],.str [33,61],.str [60],.str [60,61],.str [62],.str [62,61]]) []:=rule uB []
theorem AQ8:E 136 [I 5] [] (.slice false 1 [.str [43],.str [45]]) []:=rule uB []
theorem AQ7:E 136 [I 6] [] (.slice false 1 [.str [42],.str [47],.str [37]]) []:=rule uB []
end Go.Abs.Z
