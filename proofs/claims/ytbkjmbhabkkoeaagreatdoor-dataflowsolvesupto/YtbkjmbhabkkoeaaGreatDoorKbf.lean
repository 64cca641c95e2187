/- A part of the proof: WJ KK WD KD KE KL KM WK. -/
import Derived.Test.YtbkjmbhabkkoeaaGreatDoorKbe
import Derived.Test.YtbkjmbhabkkoeaaGreatDoorKbd

set_option linter.unusedVariables false
set_option linter.unusedSimpArgs false
namespace Go.Abs.Z
open PV
open Go.Proofs Go.RowKit
set_option linter.unusedVariables false
set_option linter.unusedSimpArgs false
section
variable{τ:Sto}{C a id:Nat}{es:List PV}{r:PV}{w z:W}
theorem MN(h:Ml r):FY pur run (.w (.stO 1)) [.hole 1,r] τ [some (.ref τ.length 0)] (τ++[[r]]):=by
 rcases h with rfl | ⟨_,_,_,rfl⟩<;>exact⟨0,fun _ _=>rfl⟩
theorem Nk(h:τ[id]?=some [r])(ho:Ml r):Cs (.ld 1 false) [.ref id 0] τ=some [some r]:=by
 refine VW ?_ (M5 ho)
 rw[h];rcases ho with rfl | ⟨_,_,_,rfl⟩<;>rfl
theorem o8(hC:τ[C]?=some [.arrv 0 16 es])(hz:es[a]?=some (wv z))(lz:z.length=16):Cs (.ld 16 true) [.aptr C 0 16 a 0] τ=some [some (wv z)]:=by
 have e1:((z.map wc).drop 0).take 16=z.map wc:=by rw[Dz,CO (by rw[Av];omega)]
 have e2:Xh (wv z) 0 16 true=some (wv z):=by
  show(if 0+16≤(z.map wc).length then Ih (((z.map wc).drop 0).take 16) else none)=_
  rw[e1,if_pos (by rw[Av];omega)]
  unfold Ih;rw[if_pos Je];rfl
 simp only[Cs,hC,Ej,and_self,if_true,hz,e2,AB,Fq]
theorem jC:∀(a b:W),a.length=b.length→eqL (List.replicate a.length 0) (a.map wc) (b.map wc)=some (decide (a=b))
 |[],[],_=>rfl
 |X::a,Y::b,h=>by
  have ih:=jC a b (by simpa using h)
  have e:eqC 0 (wc X) (wc Y)=some ((X.toNat:Int)==(Y.toNat:Int)):=rfl;rw[AL,AL,BD,ET];unfold eqL;rw[e];by_cases hXY:X=Y
  ·subst hXY;rw[show((X.toNat:Int)==(X.toNat:Int))=true from by simp]
   simp only[ih,List.cons.injEq,true_and]
  ·have hne:¬(X.toNat:Int)=(Y.toNat:Int):=fun he=>hXY (BitVec.eq_of_toNat_eq (by omega))
   rw[show((X.toNat:Int)==(Y.toNat:Int))=false from by simpa using hne]
   simp only[List.cons.injEq,hXY,false_and,decide_false]
theorem tu(lw:w.length=16)(he:w=z):AJ (.aeq true [0,0,0,0,0,0,0,0,0,0,0,0,0,0,0,0]) [wv w,wv z]=some [some (.bool false)]:=by
 have h:=jC w z (by rw[he])
 rw[lw,decide_eq_true he] at h;show(eqL (List.replicate 16 0) (w.map wc) (z.map wc)).map (fun b=>[some (PV.bool (b != true))])=_
 rw[h];rfl
theorem tq(lw:w.length=16)(lz:z.length=16)(he:w≠z):AJ (.aeq true [0,0,0,0,0,0,0,0,0,0,0,0,0,0,0,0]) [wv w,wv z]=some [some (.bool true)]:=by
 have h:=jC w z (by omega)
 rw[lw,decide_eq_false he] at h;show(eqL (List.replicate 16 0) (w.map wc) (z.map wc)).map (fun b=>[some (PV.bool (b != true))])=_
 rw[h];rfl
end
variable{τ τ2 τ0 τ1 τ3 τ4:Sto}{fw m:Bool}{A C G K F i n a c B:Nat}{v f g k:PV}{es gs ks:List PV}
theorem R7:Rn 7 a7:=fun _ _ _=>by kernel_rfl
theorem q7c{x:Nat}{q:PV}{l:List Int}(hv:Rd τ v l)(hc:c<l.length)(hl:l.length<4000000000)(ip:AJ (.idx 1) [v,N c]=some [some q])(lp:Cs (.ld 1 false) [q] τ=some [some (N x)])(ha:a<n)(hx:x<n)(h:E 30 [.aptr A 0 16 a 0,.aptr C 0 16 x 0] τ (.tuple []) τ2){e:Bp}{ff1:FF}{σ1:Sto}(hnx:LpE a7 2 [(1,bool fw),(12,N n),(13,arr G 0 0 n 16),(15,arr K 0 0 n 16),(17,func F [] [.ref i 0]),(18,arr A 0 0 n 16),(19,arr C 0 0 n 16),(20,bool m),(21,N a),(61,N n),(62,N a),(67,v),(68,N l.length),(69,N (c+1))] τ2 e ff1 σ1):LpE a7 2 [(1,bool fw),(12,N n),(13,arr G 0 0 n 16),(15,arr K 0 0 n 16),(17,func F [] [.ref i 0]),(18,arr A 0 0 n 16),(19,arr C 0 0 n 16),(20,bool m),(21,N a),(61,N n),(62,N a),(67,v),(68,N l.length),(69,N c)] τ e ff1 σ1:=by
 exact Ee [1,12,13,15,17,18,19,20,21,61,62,67,68,69] [sp 0 (Ca .i64 (show(c:Int) < (l.length:Int) by omega)),sp 1 ip,st 0 (QS τ lp),sp 3 (Cw (A:=A) (size:=16) ha),sp 2 (Cw (A:=C) (size:=16) hx),st 0 (oW h (by kernel_rfl) ⟨rfl,rfl,rfl⟩),sp 0 (CZ c 1 (by omega))] hnx
theorem AqT{l:List Int}(hc:¬c<l.length):LpE a7 2 [(1,bool fw),(12,N n),(13,arr G 0 0 n 16),(15,arr K 0 0 n 16),(17,func F [] [.ref i 0]),(18,arr A 0 0 n 16),(19,arr C 0 0 n 16),(20,bool m),(21,N a),(61,N n),(62,N a),(67,v),(68,N l.length),(69,N c)] τ (.exit 4) [(1,bool fw),(12,N n),(13,arr G 0 0 n 16),(15,arr K 0 0 n 16),(17,func F [] [.ref i 0]),(18,arr A 0 0 n 16),(19,arr C 0 0 n 16),(20,bool m),(21,N a),(61,N n),(62,N a)] τ:=by
 exact Dv [1,12,13,15,17,18,19,20,21,61,62] [sp 0 (Db .i64 (show ¬(c:Int) < (l.length:Int) by omega))]
theorem q7s{w:W}(hA:τ[A]?=some [.arrv 0 16 es])(hw:es[a]?=some (wv w))(lw:w.length=16){fs:List PV}{u:W}(hK:τ[K]?=some [.arrv 0 16 fs])(hu:fs[a]?=some (wv u))(lu:u.length=16){gs:List PV}{x:W}(hG:τ[G]?=some [.arrv 0 16 gs])(hx:gs[a]?=some (wv x))(lx:x.length=16){cs:List PV}{z:W}(hC:τ[C]?=some [.arrv 0 16 cs])(hz:cs[a]?=some (wv z))(lz:z.length=16){v:PV}{l:List Int}(hp:pur F=false)(hv:Rd τ0 v l)(ha:a<n)(hn:n<4000000000)(hs:E F [N a,.ref i 0] τ0 v τ0)(L:LpE a7 2 [(1,bool fw),(12,N n),(13,arr G 0 0 n 16),(15,arr K 0 0 n 16),(17,func F [] [.ref i 0]),(18,arr A 0 0 n 16),(19,arr C 0 0 n 16),(20,bool m),(21,N a),(61,N n),(62,N a),(67,v),(68,N l.length),(69,N 0)] τ0 (.exit 4) [(1,bool fw),(12,N n),(13,arr G 0 0 n 16),(15,arr K 0 0 n 16),(17,func F [] [.ref i 0]),(18,arr A 0 0 n 16),(19,arr C 0 0 n 16),(20,bool m),(21,N a),(61,N n),(62,N a)] τ)(h:E 31 [.aptr A 0 16 a 0,.aptr K 0 16 a 0,.aptr G 0 16 a 0] τ (wv (ps w u x)) τ)(he:ps w u x=z){e:Bp}{ff1:FF}{σ1:Sto}(hnx:LpE a7 1 [(1,bool fw),(12,N n),(13,arr G 0 0 n 16),(15,arr K 0 0 n 16),(17,func F [] [.ref i 0]),(18,arr A 0 0 n 16),(19,arr C 0 0 n 16),(20,bool m),(61,N n),(62,N (a+1))] (τ++[(wv (ps w u x)).cells]) e ff1 σ1):LpE a7 1 [(1,bool fw),(12,N n),(13,arr G 0 0 n 16),(15,arr K 0 0 n 16),(17,func F [] [.ref i 0]),(18,arr A 0 0 n 16),(19,arr C 0 0 n 16),(20,bool m),(61,N n),(62,N a)] τ0 e ff1 σ1:=by
 have lps:=NT lw lu lx;exact Ee [1,12,13,15,17,18,19,20,61,62] [sp 0 (Ca .i64 (show(a:Int) < (n:Int) by omega)),st 5 (Y2 (fs:=[]) (cs:=[.ref i 0]) (vs:=[N a]) hs hp rfl rfl hv.dis),sp 0 hv.len,sl 1 [1,12,13,15,17,18,19,20,21,61,62,67,68,69] L,sp 2 (Cw (A:=A) (size:=16) ha),sp 2 (Cw (A:=K) (size:=16) ha),sp 2 (Cw (A:=G) (size:=16) ha),st 0 (oW h (by kernel_rfl) ⟨rfl,rfl,Fq⟩),st 1 (YC (τ:=τ) (w:=ps w u x) lps),st 0 (QS (τ++[(wv (ps w u x)).cells]) (Uy lps Bv)),sp 2 (Cw (A:=C) (size:=16) ha),st 0 (QS (τ++[(wv (ps w u x)).cells]) (o8 (FV hC) hz lz)),sp 0 (tu lps he),sp 1 (CZ a 1 (by omega))] hnx
theorem q7d{w:W}(hA:τ[A]?=some [.arrv 0 16 es])(hw:es[a]?=some (wv w))(lw:w.length=16){fs:List PV}{u:W}(hK:τ[K]?=some [.arrv 0 16 fs])(hu:fs[a]?=some (wv u))(lu:u.length=16){gs:List PV}{x:W}(hG:τ[G]?=some [.arrv 0 16 gs])(hx:gs[a]?=some (wv x))(lx:x.length=16){cs:List PV}{z:W}(hC:τ[C]?=some [.arrv 0 16 cs])(hz:cs[a]?=some (wv z))(lz:z.length=16){v:PV}{l:List Int}(hp:pur F=false)(hv:Rd τ0 v l)(ha:a<n)(hn:n<4000000000)(hs:E F [N a,.ref i 0] τ0 v τ0)(L:LpE a7 2 [(1,bool fw),(12,N n),(13,arr G 0 0 n 16),(15,arr K 0 0 n 16),(17,func F [] [.ref i 0]),(18,arr A 0 0 n 16),(19,arr C 0 0 n 16),(20,bool m),(21,N a),(61,N n),(62,N a),(67,v),(68,N l.length),(69,N 0)] τ0 (.exit 4) [(1,bool fw),(12,N n),(13,arr G 0 0 n 16),(15,arr K 0 0 n 16),(17,func F [] [.ref i 0]),(18,arr A 0 0 n 16),(19,arr C 0 0 n 16),(20,bool m),(21,N a),(61,N n),(62,N a)] τ)(h:E 31 [.aptr A 0 16 a 0,.aptr K 0 16 a 0,.aptr G 0 16 a 0] τ (wv (ps w u x)) τ)(he:ps w u x≠z){e:Bp}{ff1:FF}{σ1:Sto}(hnx:LpE a7 1 [(1,bool fw),(12,N n),(13,arr G 0 0 n 16),(15,arr K 0 0 n 16),(17,func F [] [.ref i 0]),(18,arr A 0 0 n 16),(19,arr C 0 0 n 16),(20,bool true),(61,N n),(62,N (a+1))] ((τ++[(wv (ps w u x)).cells]).set C [.arrv 0 16 (cs.set a (wv (ps w u x)))]) e ff1 σ1):LpE a7 1 [(1,bool fw),(12,N n),(13,arr G 0 0 n 16),(15,arr K 0 0 n 16),(17,func F [] [.ref i 0]),(18,arr A 0 0 n 16),(19,arr C 0 0 n 16),(20,bool m),(61,N n),(62,N a)] τ0 e ff1 σ1:=by
 have lps:=NT lw lu lx;exact Ee [1,12,13,15,17,18,19,20,61,62] [sp 0 (Ca .i64 (show(a:Int) < (n:Int) by omega)),st 5 (Y2 (fs:=[]) (cs:=[.ref i 0]) (vs:=[N a]) hs hp rfl rfl hv.dis),sp 0 hv.len,sl 1 [1,12,13,15,17,18,19,20,21,61,62,67,68,69] L,sp 2 (Cw (A:=A) (size:=16) ha),sp 2 (Cw (A:=K) (size:=16) ha),sp 2 (Cw (A:=G) (size:=16) ha),st 0 (oW h (by kernel_rfl) ⟨rfl,rfl,Fq⟩),st 1 (YC (τ:=τ) (w:=ps w u x) lps),st 0 (QS (τ++[(wv (ps w u x)).cells]) (Uy lps Bv)),sp 2 (Cw (A:=C) (size:=16) ha),st 0 (QS (τ++[(wv (ps w u x)).cells]) (o8 (FV hC) hz lz)),sp 0 (tq lps lz he),st 3 (QS (τ++[(wv (ps w u x)).cells]) (Uy lps Bv)),sp 0 (Cw (A:=C) (size:=16) ha),st 0 (oz (FV hC (p:=(wv (ps w u x)).cells)) hz lz lps),sp 1 (CZ a 1 (by omega))] hnx
theorem AqU(ha:¬a<n):LpE a7 1 [(1,bool fw),(12,N n),(13,arr G 0 0 n 16),(15,arr K 0 0 n 16),(17,func F [] [.ref i 0]),(18,arr A 0 0 n 16),(19,arr C 0 0 n 16),(20,bool m),(61,N n),(62,N a)] τ (.exit 2) [(1,bool fw),(12,N n),(13,arr G 0 0 n 16),(15,arr K 0 0 n 16),(17,func F [] [.ref i 0]),(18,arr A 0 0 n 16),(19,arr C 0 0 n 16),(20,bool m)] τ:=by
 exact Dv [1,12,13,15,17,18,19,20] [sp 0 (Db .i64 (show ¬(a:Int) < (n:Int) by omega))]
theorem q7r(L:LpE a7 1 [(1,bool fw),(12,N n),(13,arr G 0 0 n 16),(15,arr K 0 0 n 16),(17,func F [] [.ref i 0]),(18,arr A 0 0 n 16),(19,arr C 0 0 n 16),(20,bool false),(61,N n),(62,N 0)] τ (.exit 2) [(1,bool fw),(12,N n),(13,arr G 0 0 n 16),(15,arr K 0 0 n 16),(17,func F [] [.ref i 0]),(18,arr A 0 0 n 16),(19,arr C 0 0 n 16),(20,bool m)] τ2){e:Bp}{ff1:FF}{σ1:Sto}(hnx:LpE a7 0 [(1,bool fw),(12,N n),(13,arr G 0 0 n 16),(15,arr K 0 0 n 16),(17,func F [] [.ref i 0]),(18,arr A 0 0 n 16),(19,arr C 0 0 n 16),(20,bool m)] τ2 e ff1 σ1):LpE a7 0 [(1,bool fw),(12,N n),(13,arr G 0 0 n 16),(15,arr K 0 0 n 16),(17,func F [] [.ref i 0]),(18,arr A 0 0 n 16),(19,arr C 0 0 n 16),(20,bool true)] τ e ff1 σ1:=by
 exact Ee [1,12,13,15,17,18,19,20] [sl 5 [1,12,13,15,17,18,19,20,61,62] L] hnx
theorem q7x:LpE a7 0 [(1,bool fw),(12,N n),(13,arr G 0 0 n 16),(15,arr K 0 0 n 16),(17,func F [] [.ref i 0]),(18,arr A 0 0 n 16),(19,arr C 0 0 n 16),(20,bool false)] τ (.exit 0) [(1,bool fw),(18,arr A 0 0 n 16),(19,arr C 0 0 n 16)] τ:=by
 exact Dv [1,18,19] []
theorem uB{ps:List Pt}{gl kl:List (List Int)}(hf:CE f ps)(hg:BH g gs gl)(hk:BH k ks kl)(h26:E 26 [.agg [f]] (τ++[[f]]) .nils τ1)(hi:τ1[τ.length]?=some [f])(h27g:E 27 [g,N ps.length] (τ1++[[PV.nils]]) (.tuple [.arr G 0 0 ps.length 16,.bool true]) τ3)(h27k:E 27 [k,N ps.length] τ3 (.tuple [.arr K 0 0 ps.length 16,.bool true]) τ4)(ho:τ4[τ1.length]?=some [.nils]):E 7 [.agg [f],.bool fw,g,k] τ (.tuple [.nils,.nils,I 1]) τ4:=by
 exact rule R7 [st 0 (DU (τ:=τ) hf),st 3 (QS (τ++[[f]]) (Ea hf Bv)),st 0 (oW h26 (by kernel_rfl) ⟨by rcases hf with rfl | ⟨rfl,_⟩<;>rfl,rfl,rfl⟩),st 1 (MN (τ:=τ1) (r:=.nils) (.inl rfl)),st 1 (QS (τ1++[[PV.nils]]) (Dc hf (FV hi))),sp 0 (Dj hf),sp 1 (BM hg),st 1 (oW h27g (by kernel_rfl) ⟨by simp only[AL,AR,hg.dis];rfl,by simp only[AQ,Bh,hg.free];rfl,rfl⟩),sp 5 (BM hk),st 1 (oW h27k (by kernel_rfl) ⟨by simp only[AL,AR,hk.dis];rfl,by simp only[AQ,Bh,hk.free];rfl,rfl⟩),st 5 (QS τ4 (Nk ho (.inl rfl)))]
theorem uC{ps:List Pt}{gl kl:List (List Int)}(hf:CE f ps)(hg:BH g gs gl)(hk:BH k ks kl)(h26:E 26 [.agg [f]] (τ++[[f]]) .nils τ1)(hi:τ1[τ.length]?=some [f])(h27g:E 27 [g,N ps.length] (τ1++[[PV.nils]]) (.tuple [.arr G 0 0 ps.length 16,.bool true]) τ3)(h27k:E 27 [k,N ps.length] τ3 (.tuple [.nils,.bool false]) τ4)(ho:τ4[τ1.length]?=some [.nils]):E 7 [.agg [f],.bool fw,g,k] τ (.tuple [.nils,.nils,I 1]) τ4:=by
 exact rule R7 [st 0 (DU (τ:=τ) hf),st 3 (QS (τ++[[f]]) (Ea hf Bv)),st 0 (oW h26 (by kernel_rfl) ⟨by rcases hf with rfl | ⟨rfl,_⟩<;>rfl,rfl,rfl⟩),st 1 (MN (τ:=τ1) (r:=.nils) (.inl rfl)),st 1 (QS (τ1++[[PV.nils]]) (Dc hf (FV hi))),sp 0 (Dj hf),sp 1 (BM hg),st 1 (oW h27g (by kernel_rfl) ⟨by simp only[AL,AR,hg.dis];rfl,by simp only[AQ,Bh,hg.free];rfl,rfl⟩),sp 5 (BM hk),st 1 (oW h27k (by kernel_rfl) ⟨by simp only[AL,AR,hk.dis];rfl,by simp only[AQ,Bh,hk.free];rfl,rfl⟩),st 5 (QS τ4 (Nk ho (.inl rfl)))]
theorem uD{ps:List Pt}{gl kl:List (List Int)}(hf:CE f ps)(hg:BH g gs gl)(hk:BH k ks kl)(h26:E 26 [.agg [f]] (τ++[[f]]) .nils τ1)(hi:τ1[τ.length]?=some [f])(h27g:E 27 [g,N ps.length] (τ1++[[PV.nils]]) (.tuple [.nils,.bool false]) τ3)(h27k:E 27 [k,N ps.length] τ3 (.tuple [.arr K 0 0 ps.length 16,.bool true]) τ4)(ho:τ4[τ1.length]?=some [.nils]):E 7 [.agg [f],.bool fw,g,k] τ (.tuple [.nils,.nils,I 1]) τ4:=by
 exact rule R7 [st 0 (DU (τ:=τ) hf),st 3 (QS (τ++[[f]]) (Ea hf Bv)),st 0 (oW h26 (by kernel_rfl) ⟨by rcases hf with rfl | ⟨rfl,_⟩<;>rfl,rfl,rfl⟩),st 1 (MN (τ:=τ1) (r:=.nils) (.inl rfl)),st 1 (QS (τ1++[[PV.nils]]) (Dc hf (FV hi))),sp 0 (Dj hf),sp 1 (BM hg),st 1 (oW h27g (by kernel_rfl) ⟨by simp only[AL,AR,hg.dis];rfl,by simp only[AQ,Bh,hg.free];rfl,rfl⟩),sp 5 (BM hk),st 1 (oW h27k (by kernel_rfl) ⟨by simp only[AL,AR,hk.dis];rfl,by simp only[AQ,Bh,hk.free];rfl,rfl⟩),st 5 (QS τ4 (Nk ho (.inl rfl)))]
theorem uE{ps:List Pt}{gl kl:List (List Int)}(hf:CE f ps)(hg:BH g gs gl)(hk:BH k ks kl)(h26:E 26 [.agg [f]] (τ++[[f]]) .nils τ1)(hi:τ1[τ.length]?=some [f])(h27g:E 27 [g,N ps.length] (τ1++[[PV.nils]]) (.tuple [.nils,.bool false]) τ3)(h27k:E 27 [k,N ps.length] τ3 (.tuple [.nils,.bool false]) τ4)(ho:τ4[τ1.length]?=some [.nils]):E 7 [.agg [f],.bool fw,g,k] τ (.tuple [.nils,.nils,I 1]) τ4:=by
 exact rule R7 [st 0 (DU (τ:=τ) hf),st 3 (QS (τ++[[f]]) (Ea hf Bv)),st 0 (oW h26 (by kernel_rfl) ⟨by rcases hf with rfl | ⟨rfl,_⟩<;>rfl,rfl,rfl⟩),st 1 (MN (τ:=τ1) (r:=.nils) (.inl rfl)),st 1 (QS (τ1++[[PV.nils]]) (Dc hf (FV hi))),sp 0 (Dj hf),sp 1 (BM hg),st 1 (oW h27g (by kernel_rfl) ⟨by simp only[AL,AR,hg.dis];rfl,by simp only[AQ,Bh,hg.free];rfl,rfl⟩),sp 5 (BM hk),st 1 (oW h27k (by kernel_rfl) ⟨by simp only[AL,AR,hk.dis];rfl,by simp only[AQ,Bh,hk.free];rfl,rfl⟩),st 5 (QS τ4 (Nk ho (.inl rfl)))]
theorem AqX{ps:List Pt}{gl kl:List (List Int)}(hf:CE f ps)(hg:BH g gs gl)(hk:BH k ks kl)(h26:E 26 [.agg [f]] (τ++[[f]]) (PV.arr B 0 0 ps.length 1) τ1)(hi:τ1[τ.length]?=some [f])(h27g:E 27 [g,N ps.length] (τ1++[[PV.arr B 0 0 ps.length 1]]) (.tuple [.nils,.bool false]) τ3)(h27k:E 27 [k,N ps.length] τ3 (.tuple [.arr K 0 0 ps.length 16,.bool true]) τ4)(ho:τ4[τ1.length]?=some [PV.arr B 0 0 ps.length 1])(h0:0<ps.length):E 7 [.agg [f],.bool fw,g,k] τ (.tuple [.nils,.nils,I 1]) τ4:=by
 exact rule R7 [st 0 (DU (τ:=τ) hf),st 3 (QS (τ++[[f]]) (Ea hf Bv)),st 0 (oW h26 (by kernel_rfl) ⟨by rcases hf with rfl | ⟨rfl,_⟩<;>rfl,rfl,rfl⟩),st 1 (MN (τ:=τ1) (r:=(PV.arr B 0 0 ps.length 1)) (.inr ⟨_,_,_,rfl⟩)),st 1 (QS (τ1++[[PV.arr B 0 0 ps.length 1]]) (Dc hf (FV hi))),sp 0 (Dj hf),sp 1 (BM hg),st 1 (oW h27g (by kernel_rfl) ⟨by simp only[AL,AR,hg.dis];rfl,by simp only[AQ,Bh,hg.free];rfl,rfl⟩),sp 5 (BM hk),st 1 (oW h27k (by kernel_rfl) ⟨by simp only[AL,AR,hk.dis];rfl,by simp only[AQ,Bh,hk.free];rfl,rfl⟩),st 5 (QS τ4 (Nk ho (.inr ⟨_,_,_,rfl⟩))),sp 1 (Ld .i64 (show(ps.length:Int)≠0 by omega))]
theorem AqY{ps:List Pt}{gl kl:List (List Int)}(hf:CE f ps)(hg:BH g gs gl)(hk:BH k ks kl)(h26:E 26 [.agg [f]] (τ++[[f]]) (PV.arr B 0 0 ps.length 1) τ1)(hi:τ1[τ.length]?=some [f])(h27g:E 27 [g,N ps.length] (τ1++[[PV.arr B 0 0 ps.length 1]]) (.tuple [.nils,.bool false]) τ3)(h27k:E 27 [k,N ps.length] τ3 (.tuple [.nils,.bool false]) τ4)(ho:τ4[τ1.length]?=some [PV.arr B 0 0 ps.length 1])(h0:0<ps.length):E 7 [.agg [f],.bool fw,g,k] τ (.tuple [.nils,.nils,I 1]) τ4:=by
 exact rule R7 [st 0 (DU (τ:=τ) hf),st 3 (QS (τ++[[f]]) (Ea hf Bv)),st 0 (oW h26 (by kernel_rfl) ⟨by rcases hf with rfl | ⟨rfl,_⟩<;>rfl,rfl,rfl⟩),st 1 (MN (τ:=τ1) (r:=(PV.arr B 0 0 ps.length 1)) (.inr ⟨_,_,_,rfl⟩)),st 1 (QS (τ1++[[PV.arr B 0 0 ps.length 1]]) (Dc hf (FV hi))),sp 0 (Dj hf),sp 1 (BM hg),st 1 (oW h27g (by kernel_rfl) ⟨by simp only[AL,AR,hg.dis];rfl,by simp only[AQ,Bh,hg.free];rfl,rfl⟩),sp 5 (BM hk),st 1 (oW h27k (by kernel_rfl) ⟨by simp only[AL,AR,hk.dis];rfl,by simp only[AQ,Bh,hk.free];rfl,rfl⟩),st 5 (QS τ4 (Nk ho (.inr ⟨_,_,_,rfl⟩))),sp 1 (Ld .i64 (show(ps.length:Int)≠0 by omega))]
theorem q7C{ps:List Pt}{gl kl:List (List Int)}(hf:CE f ps)(hg:BH g gs gl)(hk:BH k ks kl)(h26:E 26 [.agg [f]] (τ++[[f]]) (PV.arr B 0 0 ps.length 1) τ1)(hi:τ1[τ.length]?=some [f])(h27g:E 27 [g,N ps.length] (τ1++[[PV.arr B 0 0 ps.length 1]]) (.tuple [.arr G 0 0 ps.length 16,.bool true]) τ3)(h27k:E 27 [k,N ps.length] τ3 (.tuple [.nils,.bool false]) τ4)(ho:τ4[τ1.length]?=some [PV.arr B 0 0 ps.length 1])(h0:0<ps.length):E 7 [.agg [f],.bool fw,g,k] τ (.tuple [.nils,.nils,I 1]) τ4:=by
 exact rule R7 [st 0 (DU (τ:=τ) hf),st 3 (QS (τ++[[f]]) (Ea hf Bv)),st 0 (oW h26 (by kernel_rfl) ⟨by rcases hf with rfl | ⟨rfl,_⟩<;>rfl,rfl,rfl⟩),st 1 (MN (τ:=τ1) (r:=(PV.arr B 0 0 ps.length 1)) (.inr ⟨_,_,_,rfl⟩)),st 1 (QS (τ1++[[PV.arr B 0 0 ps.length 1]]) (Dc hf (FV hi))),sp 0 (Dj hf),sp 1 (BM hg),st 1 (oW h27g (by kernel_rfl) ⟨by simp only[AL,AR,hg.dis];rfl,by simp only[AQ,Bh,hg.free];rfl,rfl⟩),sp 5 (BM hk),st 1 (oW h27k (by kernel_rfl) ⟨by simp only[AL,AR,hk.dis];rfl,by simp only[AQ,Bh,hk.free];rfl,rfl⟩),st 5 (QS τ4 (Nk ho (.inr ⟨_,_,_,rfl⟩))),sp 1 (Ld .i64 (show(ps.length:Int)≠0 by omega))]
theorem AqV{ps:List Pt}{gl kl:List (List Int)}(hf:CE f ps)(hg:BH g gs gl)(hk:BH k ks kl)(h26:E 26 [.agg [f]] (τ++[[f]]) (PV.arr B 0 0 ps.length 1) τ1)(hi:τ1[τ.length]?=some [f])(h27g:E 27 [g,N ps.length] (τ1++[[PV.arr B 0 0 ps.length 1]]) (.tuple [.arr G 0 0 ps.length 16,.bool true]) τ3)(h27k:E 27 [k,N ps.length] τ3 (.tuple [.arr K 0 0 ps.length 16,.bool true]) τ4)(ho:τ4[τ1.length]?=some [PV.arr B 0 0 ps.length 1]){X Y:Nat}{τ7 τ8 τ9:Sto}(h0:0<ps.length)(hn:ps.length≤Cr)(L:LpE a7 0 [(1,bool true),(12,N ps.length),(13,arr G 0 0 ps.length 16),(15,arr K 0 0 ps.length 16),(17,func 29 [] [.ref τ1.length 0]),(18,arr τ4.length 0 0 ps.length 16),(19,arr (τ4++[[PV.arrv 0 16 (List.replicate ps.length (wv zW))]]).length 0 0 ps.length 16),(20,bool true)] ((τ4++[[PV.arrv 0 16 (List.replicate ps.length (wv zW))]])++[[PV.arrv 0 16 (List.replicate ps.length (wv zW))]]) (.exit 0) [(1,bool true),(18,arr τ4.length 0 0 ps.length 16),(19,arr (τ4++[[PV.arrv 0 16 (List.replicate ps.length (wv zW))]]).length 0 0 ps.length 16)] τ7)(ha:E 32 [.arr τ4.length 0 0 ps.length 16] τ7 (.arr X 0 0 ps.length 1) τ8)(hb:E 32 [.arr (τ4++[[PV.arrv 0 16 (List.replicate ps.length (wv zW))]]).length 0 0 ps.length 16] τ8 (.arr Y 0 0 ps.length 1) τ9):E 7 [.agg [f],.bool true,g,k] τ (.tuple [.arr X 0 0 ps.length 1,.arr Y 0 0 ps.length 1,I 0]) τ9:=by
 exact rule R7 [st 0 (DU (τ:=τ) hf),st 3 (QS (τ++[[f]]) (Ea hf Bv)),st 0 (oW h26 (by kernel_rfl) ⟨by rcases hf with rfl | ⟨rfl,_⟩<;>rfl,rfl,rfl⟩),st 1 (MN (τ:=τ1) (r:=(PV.arr B 0 0 ps.length 1)) (.inr ⟨_,_,_,rfl⟩)),st 1 (QS (τ1++[[PV.arr B 0 0 ps.length 1]]) (Dc hf (FV hi))),sp 0 (Dj hf),sp 1 (BM hg),st 1 (oW h27g (by kernel_rfl) ⟨by simp only[AL,AR,hg.dis];rfl,by simp only[AQ,Bh,hg.free];rfl,rfl⟩),sp 5 (BM hk),st 1 (oW h27k (by kernel_rfl) ⟨by simp only[AL,AR,hk.dis];rfl,by simp only[AQ,Bh,hk.free];rfl,rfl⟩),st 5 (QS τ4 (Nk ho (.inr ⟨_,_,_,rfl⟩))),sp 1 (Ld .i64 (show(ps.length:Int)≠0 by omega)),sp 16 (av (z:=wv zW) (s:=16) hn ⟨rfl,rfl⟩),sp 1 (av (z:=wv zW) (s:=16) hn ⟨rfl,rfl⟩),st 0 (ZF (τ:=τ4) (n:=ps.length) (z:=wv zW) (s:=16)),st 0 (ZF (τ:=(τ4++[[PV.arrv 0 16 (List.replicate ps.length (wv zW))]])) (n:=ps.length) (z:=wv zW) (s:=16)),sl 1 [1,12,13,15,17,18,19,20] L,st 3 (oW ha (by kernel_rfl) ⟨rfl,rfl,rfl⟩),st 1 (oW hb (by kernel_rfl) ⟨rfl,rfl,rfl⟩)]
theorem AqW{ps:List Pt}{gl kl:List (List Int)}(hf:CE f ps)(hg:BH g gs gl)(hk:BH k ks kl)(h26:E 26 [.agg [f]] (τ++[[f]]) (PV.arr B 0 0 ps.length 1) τ1)(hi:τ1[τ.length]?=some [f])(h27g:E 27 [g,N ps.length] (τ1++[[PV.arr B 0 0 ps.length 1]]) (.tuple [.arr G 0 0 ps.length 16,.bool true]) τ3)(h27k:E 27 [k,N ps.length] τ3 (.tuple [.arr K 0 0 ps.length 16,.bool true]) τ4)(ho:τ4[τ1.length]?=some [PV.arr B 0 0 ps.length 1]){X Y:Nat}{τ7 τ8 τ9:Sto}(h0:0<ps.length)(hn:ps.length≤Cr)(L:LpE a7 0 [(1,bool false),(12,N ps.length),(13,arr G 0 0 ps.length 16),(15,arr K 0 0 ps.length 16),(17,func 28 [] [.ref τ.length 0]),(18,arr τ4.length 0 0 ps.length 16),(19,arr (τ4++[[PV.arrv 0 16 (List.replicate ps.length (wv zW))]]).length 0 0 ps.length 16),(20,bool true)] ((τ4++[[PV.arrv 0 16 (List.replicate ps.length (wv zW))]])++[[PV.arrv 0 16 (List.replicate ps.length (wv zW))]]) (.exit 0) [(1,bool false),(18,arr τ4.length 0 0 ps.length 16),(19,arr (τ4++[[PV.arrv 0 16 (List.replicate ps.length (wv zW))]]).length 0 0 ps.length 16)] τ7)(ha:E 32 [.arr (τ4++[[PV.arrv 0 16 (List.replicate ps.length (wv zW))]]).length 0 0 ps.length 16] τ7 (.arr X 0 0 ps.length 1) τ8)(hb:E 32 [.arr τ4.length 0 0 ps.length 16] τ8 (.arr Y 0 0 ps.length 1) τ9):E 7 [.agg [f],.bool false,g,k] τ (.tuple [.arr X 0 0 ps.length 1,.arr Y 0 0 ps.length 1,I 0]) τ9:=by
 exact rule R7 [st 0 (DU (τ:=τ) hf),st 3 (QS (τ++[[f]]) (Ea hf Bv)),st 0 (oW h26 (by kernel_rfl) ⟨by rcases hf with rfl | ⟨rfl,_⟩<;>rfl,rfl,rfl⟩),st 1 (MN (τ:=τ1) (r:=(PV.arr B 0 0 ps.length 1)) (.inr ⟨_,_,_,rfl⟩)),st 1 (QS (τ1++[[PV.arr B 0 0 ps.length 1]]) (Dc hf (FV hi))),sp 0 (Dj hf),sp 1 (BM hg),st 1 (oW h27g (by kernel_rfl) ⟨by simp only[AL,AR,hg.dis];rfl,by simp only[AQ,Bh,hg.free];rfl,rfl⟩),sp 5 (BM hk),st 1 (oW h27k (by kernel_rfl) ⟨by simp only[AL,AR,hk.dis];rfl,by simp only[AQ,Bh,hk.free];rfl,rfl⟩),st 5 (QS τ4 (Nk ho (.inr ⟨_,_,_,rfl⟩))),sp 1 (Ld .i64 (show(ps.length:Int)≠0 by omega)),sp 14 (av (z:=wv zW) (s:=16) hn ⟨rfl,rfl⟩),sp 1 (av (z:=wv zW) (s:=16) hn ⟨rfl,rfl⟩),st 0 (ZF (τ:=τ4) (n:=ps.length) (z:=wv zW) (s:=16)),st 0 (ZF (τ:=(τ4++[[PV.arrv 0 16 (List.replicate ps.length (wv zW))]])) (n:=ps.length) (z:=wv zW) (s:=16)),sl 1 [1,12,13,15,17,18,19,20] L,st 3 (oW ha (by kernel_rfl) ⟨rfl,rfl,rfl⟩),st 1 (oW hb (by kernel_rfl) ⟨rfl,rfl,rfl⟩)]
end Go.Abs.Z

namespace Go.Abs.Z
open Go.Proofs Go.RowKit
set_option linter.unusedVariables false
open Classical
def Lik(M:Nat)(a b:Sto):Prop:=∀id,id<M→b[id]?=a[id]?
def Sc(M:Nat)(τb:Sto)(F i n:Nat)(src:Nat→List Nat):Prop:=∀a,a<n→∃v,(src a).length<4000000000∧(∀τ,Lik M τb τ→E F [N a,.ref i 0] τ v τ)∧∀τ,Lik M τb τ→Rd τ v ((src a).map fun x:Nat=>(x:Int))
theorem aK{α:Type}{S:Nat→α}{i:Nat}:Dk S i (S i)=S:=by
 funext j;unfold Dk;split
 ·rename_i h;rw[h]
 ·rfl
theorem aL{α:Type}{S:Nat→α}{i:Nat}{x y:α}:Dk (Dk S i x) i y=Dk S i y:=by
 funext j;unfold Dk;split<;>rfl
theorem Zl{α:Type}{S:Nat→α}{i:Nat}{x:α}:Dk S i x i=x:=by unfold Dk;rw[if_pos rfl]
section
variable{fw m0:Bool}{A C G K F i n M:Nat}{τb:Sto}{y:Sy}
structure C7(A C G K F i n M:Nat)(τb:Sto)(y:Sy):Prop where
 yn:y.n=n
 nl:n≤1024
 ac:A≠C
 am:M≤A
 cm:M≤C
 g:AW τb G n y.gn
 k:AW τb K n y.kl
 gm:G<M
 km:K<M
 sc:Sc M τb F i n y.src
 pf:pur F=false
structure X7(A C n M:Nat)(τb τ:Sto)(S T:Nat→W):Prop where
 a:AW τ A n S
 c:AW τ C n T
 l:Lik M τb τ
theorem X7.aw{S T U:Nat→W}{τ:Sto}{G:Nat}(h:X7 A C n M τb τ S T)(hg:AW τb G n U)(hm:G<M):AW τ G n U:=by
 unfold AW;rw[h.l G hm];exact hg
abbrev fP(fw m:Bool)(A C G K F i n:Nat):FF:=[(1,some (.bool fw)),(12,some (N n)),(13,some (.arr G 0 0 n 16)),(15,some (.arr K 0 0 n 16)),(17,some (.func F [] [.ref i 0])),(18,some (.arr A 0 0 n 16)),(19,some (.arr C 0 0 n 16)),(20,some (.bool m))]
theorem iI(h7:C7 A C G K F i n M τb y){a:Nat}(ha:a<n){v:PV}(hl:(y.src a).length<4000000000)(hv:∀τ,Lik M τb τ→Rd τ v ((y.src a).map fun x:Nat=>(x:Int))):∀(m c:Nat) (τ:Sto) (S T:Nat→W),m=(y.src a).length - c→c≤(y.src a).length→X7 A C n M τb τ S T→(∀i,(S i).length=16)→(∀i,(T i).length=16)→
  ∃τ',X7 A C n M τb τ' (Dk S a (((y.src a).drop c).foldl (fun w j=>jn w (T j)) (S a))) T∧
   LpE a7 2 (fP fw m0 A C G K F i n++[(21,some (N a)),(61,some (N n)),(62,some (N a)),(67,some v),(68,some (N ((y.src a).map fun x:Nat=>(x:Int)).length)),(69,some (N c))]) τ (.exit 4) (fP fw m0 A C G K F i n++[(21,some (N a)),(61,some (N n)),(62,some (N a))]) τ'
 |0,c,τ,S,T,hm,hc,hx,hS,hT=>by
  rw[DC (by omega)]
  refine⟨τ,?_,AqT (l:=(y.src a).map fun x:Nat=>(x:Int)) (by rw[Av];omega)⟩
  show X7 A C n M τb τ (Dk S a (S a)) T;rw[aK];exact hx
 |m+1,c,τ,S,T,hm,hc,hx,hS,hT=>by
  have hcl:c<(y.src a).length:=by omega
  have hxn:(y.src a)[c] < n:=by
   have:=y.hsrc a _ (by rw[h7.yn];exact ha) (AU hcl)
   rw[h7.yn] at this;exact this
  have hrd:=hv τ hx.l;obtain⟨q,ip,lp⟩:=hrd.idx c ((y.src a)[c]:Int) (by rw[Af,Ad hcl];rfl)
  have h30:=e30 hx.a (FR ha) (hS a) hx.c (FR hxn) (hT _) h7.ac
  have hx2:X7 A C n M τb (τ.set A [.arrv 0 16 (((List.range n).map fun i=>wv (S i)).set a (wv (jn (S a) (T (y.src a)[c]))))]) (Dk S a (jn (S a) (T (y.src a)[c]))) T:=
   ⟨hx.a.set a _,hx.c.other h7.ac,fun id hid=>by rw[Ap (by have:=h7.am;omega)];exact hx.l id hid⟩
  obtain⟨τ',h1,h2⟩:=iI h7 ha hl hv m (c+1) _ _ T (by omega) (by omega) hx2 (fun j=>by
   unfold Dk;split
   ·exact XV (hS a) (hT _)
   ·exact hS j) hT
  rw[aL,Zl] at h1;refine⟨τ',?_,q7c hrd (by rw[Av];exact hcl) (by rw[Av];exact hl) ip lp ha hxn h30 h2⟩
  rw[Bu hcl,Ci];exact h1
theorem XN(h7:C7 A C G K F i n M τb y):∀(m a:Nat) (τ:Sto) (s:St),m=n - a→a≤n→X7 A C n M τb τ s.S s.T→Gud y s.S s.T→
  ∃τ',X7 A C n M τb τ' ((List.range' a m).foldl y.step s).S ((List.range' a m).foldl y.step s).T∧
   LpE a7 1 (fP fw s.c A C G K F i n++[(61,some (N n)),(62,some (N a))]) τ (.exit 2) (fP fw ((List.range' a m).foldl y.step s).c A C G K F i n) τ'
 |0,a,τ,s,hm,ha,hx,hg=>⟨τ,hx,AqU (by omega)⟩
 |m+1,a,τ,s,hm,ha,hx,hg=>by
  have han:a<n:=by omega
  have hny:a<y.n:=by rw[h7.yn];exact han
  have hnl:=h7.nl;obtain⟨v,hl,hE,hR⟩:=h7.sc a han;obtain⟨τ1,h1,h2⟩:=iI (fw:=fw) (m0:=s.c) h7 han hl hR (y.src a).length 0 τ s.S s.T (by omega) (by omega) hx hg.s16 hg.t16
  rw[Dz] at h1;change X7 A C n M τb τ1 (Dk s.S a (y.inn s.S s.T a)) s.T at h1;have lw:(y.inn s.S s.T a).length=16:=hg.Nq a;have hA1:=h1.a
  have hAg:((List.range n).map fun i=>wv (Dk s.S a (y.inn s.S s.T a) i))[a]?=some (wv (y.inn s.S s.T a)):=by
   rw[FR (S:=Dk s.S a (y.inn s.S s.T a)) han,Zl]
  have hK1:=h1.aw h7.k h7.km;have hG1:=h1.aw h7.g h7.gm;have h31:=e31 hA1 hAg lw hK1 (FR han) (y.hkl a) hG1 (FR han) (y.hgn a);have hgs:=hg.step hny;rw[Dq,Ci];by_cases he:ps (y.inn s.S s.T a) (y.kl a) (y.gn a)=s.T a
  ·have e:y.step s a=⟨Dk s.S a (y.inn s.S s.T a),s.T,s.c⟩:=by unfold Sy.step;exact if_pos he
   have hx2:X7 A C n M τb (τ1++[(wv (ps (y.inn s.S s.T a) (y.kl a) (y.gn a))).cells]) (y.step s a).S (y.step s a).T:=by
    rw[e]
    exact⟨h1.a.old Old.push,h1.c.old Old.push,fun id hid=>by
     have:=(Ab.1 h1.a).1;have:=h7.am;rw[Ae (by omega)];exact h1.l id hid⟩
   obtain⟨τ',h3,h4⟩:=XN h7 m (a+1) _ _ (by omega) (by omega) hx2 hgs
   refine⟨τ',h3,?_⟩
   have hc:(y.step s a).c=s.c:=by rw[e]
   rw[hc] at h4;exact q7s hA1 hAg lw hK1 (FR han) (y.hkl a) hG1 (FR han) (y.hgn a) h1.c (FR han) (hg.t16 a) h7.pf (hR τ hx.l) han (by omega) (hE τ hx.l) h2 h31 he h4
  ·have e:y.step s a=⟨Dk s.S a (y.inn s.S s.T a),Dk s.T a (ps (y.inn s.S s.T a) (y.kl a) (y.gn a)),true⟩:=by unfold Sy.step;exact if_neg he
   have hx2:X7 A C n M τb ((τ1++[(wv (ps (y.inn s.S s.T a) (y.kl a) (y.gn a))).cells]).set C [.arrv 0 16 (((List.range n).map fun i=>wv (s.T i)).set a (wv (ps (y.inn s.S s.T a) (y.kl a) (y.gn a))))]) (y.step s a).S (y.step s a).T:=by
    rw[e]
    exact⟨(h1.a.old Old.push).other (Ne.symm h7.ac),(h1.c.old Old.push).set a _,fun id hid=>by
     have:=(Ab.1 h1.a).1;have:=h7.am;have:=h7.cm;rw[Ap (by omega),Ae (by omega)];exact h1.l id hid⟩
   obtain⟨τ',h3,h4⟩:=XN h7 m (a+1) _ _ (by omega) (by omega) hx2 hgs
   refine⟨τ',h3,?_⟩
   have hc:(y.step s a).c=true:=by rw[e]
   rw[hc] at h4;exact q7d hA1 hAg lw hK1 (FR han) (y.hkl a) hG1 (FR han) (y.hgn a) h1.c (FR han) (hg.t16 a) h7.pf (hR τ hx.l) han (by omega) (hE τ hx.l) h2 h31 he h4
theorem vC(h7:C7 A C G K F i n M τb y):∀(m:Nat) (τ:Sto) (S T:Nat→W),m=1024 * y.n - tot T y.n→X7 A C n M τb τ S T→Gud y S T→
  ∃τ' S' T',X7 A C n M τb τ' S' T'∧Gud y S' T'∧(∀i v,i<y.n→v<1024→(bit (S' i) v=true↔y.In i v))∧(∀i v,i<y.n→v<1024→(bit (T' i) v=true↔y.R i v))∧
   LpE a7 0 (fP fw true A C G K F i n) τ (.exit 0) [(1,some (.bool fw)),(18,some (.arr A 0 0 n 16)),(19,some (.arr C 0 0 n 16))] τ':=by
 intro m
 induction m using Nat.strongRecOn with
 |_ m ih=>
  intro τ S T hm hx hg;obtain⟨τ1,h1,h2⟩:=XN (fw:=fw) h7 n 0 τ ⟨S,T,false⟩ (by omega) (by omega) hx hg
  have e:(List.range' 0 n).foldl y.step ⟨S,T,false⟩=y.rnd S T:=by
   unfold Sy.rnd;rw[h7.yn,Dp]
  rw[e] at h1 h2;cases hcc:(y.rnd S T).c with
  |false=>
   obtain⟨h3,h4⟩:=hg.still hcc;rw[hcc] at h2;exact⟨τ1,_,_,h1,hg.rnd,h3,h4,q7r h2 q7x⟩
  |true=>
   rw[hcc] at h2;have ht:=mQ hg hcc;have hle:=pQ (y.rnd S T).T y.n;obtain⟨τ2,S',T',h3,h4,h5,h6,h8⟩:=ih (1024 * y.n - tot (y.rnd S T).T y.n) (by omega) τ1 _ _ rfl h1 hg.rnd
   exact⟨τ2,S',T',h3,h4,h5,h6,q7r h2 h8⟩
end
end Go.Abs.Z

namespace Go.Abs.Z
open PV
open Go.Proofs Go.RowKit
set_option linter.unusedVariables false
set_option linter.unusedSimpArgs false
variable{τ:Sto}{A B n i:Nat}{g k f:PV}{gs ks:List PV}{fw:Bool}
theorem R8:Rn 8 a8:=fun _ _ _=>by kernel_rfl
theorem uw{gl kl:List (List Int)}(hg:BH g gs gl)(hk:BH k ks kl){is os:List PV}(hA:τ[A]?=some [.arrv 0 1 is])(hB:τ[B]?=some [.arrv 0 1 os]){a:Nat}{w w2 wg wk r:PV}{l l2 lg lk q:List Int}(ha:a<n)(hn:n<4000000000)(hw:is[a]?=some w)(hl:Ls w l)(hw2:os[a]?=some w2)(hl2:Ls w2 l2)(hwg:gs[a]?=some wg)(hlg:Ls wg lg)(hwk:ks[a]?=some wk)(hlk:Ls wk lk)(eg:g=.slice false 1 gs)(ek:k=.slice false 1 ks)(hr:Ls r q)(h:E 18 [w,wg,wk] τ r τ){e:Bp}{ff1:FF}{σ1:Sto}(hnx:LpE a8 1 [(1,bool true),(2,g),(3,k),(4,ref i 0),(11,N n),(12,arr A 0 0 n 1),(13,arr B 0 0 n 1),(14,bool true),(15,N (a+1))] (τ.set B [.arrv 0 1 (os.set a r)]) e ff1 σ1):LpE a8 1 [(1,bool true),(2,g),(3,k),(4,ref i 0),(11,N n),(12,arr A 0 0 n 1),(13,arr B 0 0 n 1),(14,bool true),(15,N a)] τ e ff1 σ1:=by
 exact Ee [1,2,3,4,11,12,13,14,15] [sp 2 (Ca .i64 (show(a:Int) < (n:Int) by omega)),sp 3 (Cw (A:=A) (size:=1) ha),st 0 (QS τ (G9 hA hw hl)),sp 0 (Dm hl),sp 3 (Dm hl),sp 0 (BM hg),sp 1 (by rw[eg];exact FL hwg:AJ (.idx 1) [g,N a]=some [some (.vptr wg)]),st 0 (QS τ (Ef hlg)),sp 0 (BM hk),sp 1 (by rw[ek];exact FL hwk:AJ (.idx 1) [k,N a]=some [some (.vptr wk)]),st 0 (QS τ (Ef hlk)),st 0 (oW h (by kernel_rfl) ⟨by simp[hl.dis,hlg.dis,hlk.dis],by simp[hl.free,hlg.free,hlk.free],hr.dis⟩),sp 0 (Dm hr),sp 16 (Dm hr),sp 0 (Cw (A:=B) (size:=1) ha),st 0 (Oy hB hw2 hl2 hr),sp 1 (CZ a 1 (by omega))] hnx
theorem uy{gl kl:List (List Int)}(hg:BH g gs gl)(hk:BH k ks kl){is os:List PV}(hA:τ[A]?=some [.arrv 0 1 is])(hB:τ[B]?=some [.arrv 0 1 os]){a:Nat}{w w2 wg wk r:PV}{l l2 lg lk q:List Int}(ha:a<n)(hn:n<4000000000)(hw:is[a]?=some w)(hl:Ls w l)(hw2:os[a]?=some w2)(hl2:Ls w2 l2)(hwg:gs[a]?=some wg)(hlg:Ls wg lg)(hwk:ks[a]?=some wk)(hlk:Ls wk lk)(eg:g=.slice false 1 gs)(ek:k=.slice false 1 ks)(hr:Ls r q)(h:E 18 [w,wg,wk] τ r τ){e:Bp}{ff1:FF}{σ1:Sto}(hnx:LpE a8 1 [(1,bool true),(2,g),(3,k),(4,ref i 0),(11,N n),(12,arr A 0 0 n 1),(13,arr B 0 0 n 1),(14,bool (!decide (q.length=l2.length))),(15,N (a+1))] (τ.set B [.arrv 0 1 (os.set a r)]) e ff1 σ1):LpE a8 1 [(1,bool true),(2,g),(3,k),(4,ref i 0),(11,N n),(12,arr A 0 0 n 1),(13,arr B 0 0 n 1),(14,bool false),(15,N a)] τ e ff1 σ1:=by
 exact Ee [1,2,3,4,11,12,13,14,15] [sp 2 (Ca .i64 (show(a:Int) < (n:Int) by omega)),sp 3 (Cw (A:=A) (size:=1) ha),st 0 (QS τ (G9 hA hw hl)),sp 0 (Dm hl),sp 3 (Dm hl),sp 0 (BM hg),sp 1 (by rw[eg];exact FL hwg:AJ (.idx 1) [g,N a]=some [some (.vptr wg)]),st 0 (QS τ (Ef hlg)),sp 0 (BM hk),sp 1 (by rw[ek];exact FL hwk:AJ (.idx 1) [k,N a]=some [some (.vptr wk)]),st 0 (QS τ (Ef hlk)),st 0 (oW h (by kernel_rfl) ⟨by simp[hl.dis,hlg.dis,hlk.dis],by simp[hl.free,hlg.free,hlk.free],hr.dis⟩),sp 0 (Dm hr),sq 4 (Dm hr),sq 0 (D8 hr),sq 2 (Cw (A:=B) (size:=1) ha),sg 0 (QS τ (G9 hB hw2 hl2)),sq 0 (D8 hl2),sq 0 (neD q.length l2.length),sp 4 (Dm hr),sp 0 (Cw (A:=B) (size:=1) ha),st 0 (Oy hB hw2 hl2 hr),sp 1 (CZ a 1 (by omega))] hnx
theorem uz{gl kl:List (List Int)}(hg:BH g gs gl)(hk:BH k ks kl){is os:List PV}(hA:τ[A]?=some [.arrv 0 1 is])(hB:τ[B]?=some [.arrv 0 1 os]){a:Nat}{w w2 wg wk r:PV}{l l2 lg lk q:List Int}(ha:a<n)(hn:n<4000000000)(hw:is[a]?=some w)(hl:Ls w l)(hw2:os[a]?=some w2)(hl2:Ls w2 l2)(hwg:gs[a]?=some wg)(hlg:Ls wg lg)(hwk:ks[a]?=some wk)(hlk:Ls wk lk)(eg:g=.slice false 1 gs)(ek:k=.slice false 1 ks)(hr:Ls r q)(h:E 18 [w2,wg,wk] τ r τ){e:Bp}{ff1:FF}{σ1:Sto}(hnx:LpE a8 1 [(1,bool false),(2,g),(3,k),(4,ref i 0),(11,N n),(12,arr A 0 0 n 1),(13,arr B 0 0 n 1),(14,bool true),(15,N (a+1))] (τ.set A [.arrv 0 1 (is.set a r)]) e ff1 σ1):LpE a8 1 [(1,bool false),(2,g),(3,k),(4,ref i 0),(11,N n),(12,arr A 0 0 n 1),(13,arr B 0 0 n 1),(14,bool true),(15,N a)] τ e ff1 σ1:=by
 exact Ee [1,2,3,4,11,12,13,14,15] [sp 2 (Ca .i64 (show(a:Int) < (n:Int) by omega)),sp 3 (Cw (A:=A) (size:=1) ha),st 0 (QS τ (G9 hA hw hl)),sp 0 (Dm hl),sp 5 (Cw (A:=B) (size:=1) ha),st 0 (QS τ (G9 hB hw2 hl2)),sp 0 (Dm hl2),sp 0 (Dm hl2),sp 0 (BM hg),sp 1 (by rw[eg];exact FL hwg:AJ (.idx 1) [g,N a]=some [some (.vptr wg)]),st 0 (QS τ (Ef hlg)),sp 0 (BM hk),sp 1 (by rw[ek];exact FL hwk:AJ (.idx 1) [k,N a]=some [some (.vptr wk)]),st 0 (QS τ (Ef hlk)),st 0 (oW h (by kernel_rfl) ⟨by simp[hl2.dis,hlg.dis,hlk.dis],by simp[hl2.free,hlg.free,hlk.free],hr.dis⟩),sp 0 (Dm hr),sp 16 (Dm hr),sp 0 (Cw (A:=A) (size:=1) ha),st 0 (Oy hA hw hl hr),sp 1 (CZ a 1 (by omega))] hnx
theorem uA{gl kl:List (List Int)}(hg:BH g gs gl)(hk:BH k ks kl){is os:List PV}(hA:τ[A]?=some [.arrv 0 1 is])(hB:τ[B]?=some [.arrv 0 1 os]){a:Nat}{w w2 wg wk r:PV}{l l2 lg lk q:List Int}(ha:a<n)(hn:n<4000000000)(hw:is[a]?=some w)(hl:Ls w l)(hw2:os[a]?=some w2)(hl2:Ls w2 l2)(hwg:gs[a]?=some wg)(hlg:Ls wg lg)(hwk:ks[a]?=some wk)(hlk:Ls wk lk)(eg:g=.slice false 1 gs)(ek:k=.slice false 1 ks)(hr:Ls r q)(h:E 18 [w2,wg,wk] τ r τ){e:Bp}{ff1:FF}{σ1:Sto}(hnx:LpE a8 1 [(1,bool false),(2,g),(3,k),(4,ref i 0),(11,N n),(12,arr A 0 0 n 1),(13,arr B 0 0 n 1),(14,bool (!decide (q.length=l.length))),(15,N (a+1))] (τ.set A [.arrv 0 1 (is.set a r)]) e ff1 σ1):LpE a8 1 [(1,bool false),(2,g),(3,k),(4,ref i 0),(11,N n),(12,arr A 0 0 n 1),(13,arr B 0 0 n 1),(14,bool false),(15,N a)] τ e ff1 σ1:=by
 exact Ee [1,2,3,4,11,12,13,14,15] [sp 2 (Ca .i64 (show(a:Int) < (n:Int) by omega)),sp 3 (Cw (A:=A) (size:=1) ha),st 0 (QS τ (G9 hA hw hl)),sp 0 (Dm hl),sp 5 (Cw (A:=B) (size:=1) ha),st 0 (QS τ (G9 hB hw2 hl2)),sp 0 (Dm hl2),sp 0 (Dm hl2),sp 0 (BM hg),sp 1 (by rw[eg];exact FL hwg:AJ (.idx 1) [g,N a]=some [some (.vptr wg)]),st 0 (QS τ (Ef hlg)),sp 0 (BM hk),sp 1 (by rw[ek];exact FL hwk:AJ (.idx 1) [k,N a]=some [some (.vptr wk)]),st 0 (QS τ (Ef hlk)),st 0 (oW h (by kernel_rfl) ⟨by simp[hl2.dis,hlg.dis,hlk.dis],by simp[hl2.free,hlg.free,hlk.free],hr.dis⟩),sp 0 (Dm hr),sq 4 (Dm hr),sq 0 (D8 hr),sq 2 (Cw (A:=A) (size:=1) ha),sg 0 (QS τ (G9 hA hw hl)),sq 0 (D8 hl),sq 0 (neD q.length l.length),sp 4 (Dm hr),sp 0 (Cw (A:=A) (size:=1) ha),st 0 (Oy hA hw hl hr),sp 1 (CZ a 1 (by omega))] hnx
theorem AqS{gl kl:List (List Int)}(hg:BH g gs gl)(hk:BH k ks kl){fw m:Bool}{a:Nat}(ha:¬a<n):LpE a8 1 [(1,bool fw),(2,g),(3,k),(4,ref i 0),(11,N n),(12,arr A 0 0 n 1),(13,arr B 0 0 n 1),(14,bool m),(15,N a)] τ (.exit 2) [(1,bool fw),(2,g),(3,k),(4,ref i 0),(11,N n),(12,arr A 0 0 n 1),(13,arr B 0 0 n 1),(14,bool m)] τ:=by
 exact Dv [1,2,3,4,11,12,13,14] [sp 2 (Db .i64 (show ¬(a:Int) < (n:Int) by omega))]
theorem uo{gl kl:List (List Int)}(hg:BH g gs gl)(hk:BH k ks kl){is os:List PV}(hA:τ[A]?=some [.arrv 0 1 is])(hB:τ[B]?=some [.arrv 0 1 os]){f:PV}{ps:List Pt}(hf:CE f ps)(hi:τ[i]?=some [f]){a c b:Nat}{p:Pt}{w w2 r:PV}{l l2 q:List Int}(hp:ps[a]?=some p)(hc:c<p.nx.length)(hcn:p.nx.length<4000000000)(hx:p.nx[c]?=some (b:Int))(ha:a<n)(hb:b<n)(hn:n<4000000000)(hr:Ls r q)(hw:is[b]?=some w)(hl:Ls w l)(hw2:os[a]?=some w2)(hl2:Ls w2 l2)(h:E 33 [w,w2] [] r []){e:Bp}{ff1:FF}{σ1:Sto}(hnx:LpE a8 3 [(1,bool true),(2,g),(3,k),(4,ref i 0),(11,N n),(12,arr A 0 0 n 1),(13,arr B 0 0 n 1),(14,bool true),(18,N a),(19,N (c+1))] (τ.set A [.arrv 0 1 (is.set b r)]) e ff1 σ1):LpE a8 3 [(1,bool true),(2,g),(3,k),(4,ref i 0),(11,N n),(12,arr A 0 0 n 1),(13,arr B 0 0 n 1),(14,bool true),(18,N a),(19,N c)] τ e ff1 σ1:=by
 exact Ee [1,2,3,4,11,12,13,14,18,19] [st 2 (QS τ (Dc hf hi)),sp 1 (by rw[hf.Cv hp];exact Dx hp:AJ (.idx 3) [f,N a]=some [some (.vptr p.pv)]),sp 0 (Fx p),st 0 (QS τ (Ef p.ok)),sp 0 (D8 p.ok),sp 0 (Ca .i64 (show(c:Int) < (p.nx.length:Int) by omega)),st 2 (QS τ (Dc hf hi)),sp 1 (by rw[hf.Cv hp];exact Dx hp:AJ (.idx 3) [f,N a]=some [some (.vptr p.pv)]),sp 0 (Fx p),st 0 (QS τ (Ef p.ok)),sp 1 (by rw[p.ok.Cv hx];exact Dg (o:=false) hx:AJ (.idx 1) [p.v,N c]=some [some (.vptr (N b))]),sp 6 (Cw (A:=A) (size:=1) hb),st 0 (QS τ (G9 hA hw hl)),sp 2 (Cw (A:=B) (size:=1) ha),st 0 (QS τ (G9 hB hw2 hl2)),st 0 (oCS τ h ⟨by simp[hl.free,hl.flat,hl2.free,hl2.flat],by simp[hl.dis,hl2.dis],hr.flat,hr.dis⟩),sp 0 (Dm hr),sp 14 (Dm hr),sp 0 (Cw (A:=A) (size:=1) hb),st 0 (Oy hA hw hl hr),sp 1 (CZ c 1 (by omega))] hnx
theorem uq{gl kl:List (List Int)}(hg:BH g gs gl)(hk:BH k ks kl){is os:List PV}(hA:τ[A]?=some [.arrv 0 1 is])(hB:τ[B]?=some [.arrv 0 1 os]){f:PV}{ps:List Pt}(hf:CE f ps)(hi:τ[i]?=some [f]){a c b:Nat}{p:Pt}{w w2 r:PV}{l l2 q:List Int}(hp:ps[a]?=some p)(hc:c<p.nx.length)(hcn:p.nx.length<4000000000)(hx:p.nx[c]?=some (b:Int))(ha:a<n)(hb:b<n)(hn:n<4000000000)(hr:Ls r q)(hw:is[b]?=some w)(hl:Ls w l)(hw2:os[a]?=some w2)(hl2:Ls w2 l2)(h:E 33 [w,w2] [] r []){e:Bp}{ff1:FF}{σ1:Sto}(hnx:LpE a8 3 [(1,bool true),(2,g),(3,k),(4,ref i 0),(11,N n),(12,arr A 0 0 n 1),(13,arr B 0 0 n 1),(14,bool (!decide (q.length=l.length))),(18,N a),(19,N (c+1))] (τ.set A [.arrv 0 1 (is.set b r)]) e ff1 σ1):LpE a8 3 [(1,bool true),(2,g),(3,k),(4,ref i 0),(11,N n),(12,arr A 0 0 n 1),(13,arr B 0 0 n 1),(14,bool false),(18,N a),(19,N c)] τ e ff1 σ1:=by
 exact Ee [1,2,3,4,11,12,13,14,18,19] [st 2 (QS τ (Dc hf hi)),sp 1 (by rw[hf.Cv hp];exact Dx hp:AJ (.idx 3) [f,N a]=some [some (.vptr p.pv)]),sp 0 (Fx p),st 0 (QS τ (Ef p.ok)),sp 0 (D8 p.ok),sp 0 (Ca .i64 (show(c:Int) < (p.nx.length:Int) by omega)),st 2 (QS τ (Dc hf hi)),sp 1 (by rw[hf.Cv hp];exact Dx hp:AJ (.idx 3) [f,N a]=some [some (.vptr p.pv)]),sp 0 (Fx p),st 0 (QS τ (Ef p.ok)),sp 1 (by rw[p.ok.Cv hx];exact Dg (o:=false) hx:AJ (.idx 1) [p.v,N c]=some [some (.vptr (N b))]),sp 6 (Cw (A:=A) (size:=1) hb),st 0 (QS τ (G9 hA hw hl)),sp 2 (Cw (A:=B) (size:=1) ha),st 0 (QS τ (G9 hB hw2 hl2)),st 0 (oCS τ h ⟨by simp[hl.free,hl.flat,hl2.free,hl2.flat],by simp[hl.dis,hl2.dis],hr.flat,hr.dis⟩),sp 0 (Dm hr),sq 2 (Dm hr),sq 0 (D8 hr),sq 2 (Cw (A:=A) (size:=1) hb),sg 0 (QS τ (G9 hA hw hl)),sq 0 (D8 hl),sq 0 (neD q.length l.length),sp 4 (Dm hr),sp 0 (Cw (A:=A) (size:=1) hb),st 0 (Oy hA hw hl hr),sp 1 (CZ c 1 (by omega))] hnx
theorem ut{gl kl:List (List Int)}(hg:BH g gs gl)(hk:BH k ks kl){is os:List PV}(hA:τ[A]?=some [.arrv 0 1 is])(hB:τ[B]?=some [.arrv 0 1 os]){f:PV}{ps:List Pt}(hf:CE f ps)(hi:τ[i]?=some [f]){a c b:Nat}{p:Pt}{w w2 r:PV}{l l2 q:List Int}(hp:ps[a]?=some p)(hc:c<p.nx.length)(hcn:p.nx.length<4000000000)(hx:p.nx[c]?=some (b:Int))(ha:a<n)(hb:b<n)(hn:n<4000000000)(hr:Ls r q)(hw:is[b]?=some w)(hl:Ls w l)(hw2:os[a]?=some w2)(hl2:Ls w2 l2)(h:E 33 [w2,w] [] r []){e:Bp}{ff1:FF}{σ1:Sto}(hnx:LpE a8 3 [(1,bool false),(2,g),(3,k),(4,ref i 0),(11,N n),(12,arr A 0 0 n 1),(13,arr B 0 0 n 1),(14,bool true),(18,N a),(19,N (c+1))] (τ.set B [.arrv 0 1 (os.set a r)]) e ff1 σ1):LpE a8 3 [(1,bool false),(2,g),(3,k),(4,ref i 0),(11,N n),(12,arr A 0 0 n 1),(13,arr B 0 0 n 1),(14,bool true),(18,N a),(19,N c)] τ e ff1 σ1:=by
 exact Ee [1,2,3,4,11,12,13,14,18,19] [st 2 (QS τ (Dc hf hi)),sp 1 (by rw[hf.Cv hp];exact Dx hp:AJ (.idx 3) [f,N a]=some [some (.vptr p.pv)]),sp 0 (Fx p),st 0 (QS τ (Ef p.ok)),sp 0 (D8 p.ok),sp 0 (Ca .i64 (show(c:Int) < (p.nx.length:Int) by omega)),st 2 (QS τ (Dc hf hi)),sp 1 (by rw[hf.Cv hp];exact Dx hp:AJ (.idx 3) [f,N a]=some [some (.vptr p.pv)]),sp 0 (Fx p),st 0 (QS τ (Ef p.ok)),sp 1 (by rw[p.ok.Cv hx];exact Dg (o:=false) hx:AJ (.idx 1) [p.v,N c]=some [some (.vptr (N b))]),sp 6 (Cw (A:=B) (size:=1) ha),st 0 (QS τ (G9 hB hw2 hl2)),sp 2 (Cw (A:=A) (size:=1) hb),st 0 (QS τ (G9 hA hw hl)),st 0 (oCS τ h ⟨by simp[hl.free,hl.flat,hl2.free,hl2.flat],by simp[hl.dis,hl2.dis],hr.flat,hr.dis⟩),sp 0 (Dm hr),sp 14 (Dm hr),sp 0 (Cw (A:=B) (size:=1) ha),st 0 (Oy hB hw2 hl2 hr),sp 1 (CZ c 1 (by omega))] hnx
theorem uu{gl kl:List (List Int)}(hg:BH g gs gl)(hk:BH k ks kl){is os:List PV}(hA:τ[A]?=some [.arrv 0 1 is])(hB:τ[B]?=some [.arrv 0 1 os]){f:PV}{ps:List Pt}(hf:CE f ps)(hi:τ[i]?=some [f]){a c b:Nat}{p:Pt}{w w2 r:PV}{l l2 q:List Int}(hp:ps[a]?=some p)(hc:c<p.nx.length)(hcn:p.nx.length<4000000000)(hx:p.nx[c]?=some (b:Int))(ha:a<n)(hb:b<n)(hn:n<4000000000)(hr:Ls r q)(hw:is[b]?=some w)(hl:Ls w l)(hw2:os[a]?=some w2)(hl2:Ls w2 l2)(h:E 33 [w2,w] [] r []){e:Bp}{ff1:FF}{σ1:Sto}(hnx:LpE a8 3 [(1,bool false),(2,g),(3,k),(4,ref i 0),(11,N n),(12,arr A 0 0 n 1),(13,arr B 0 0 n 1),(14,bool (!decide (q.length=l2.length))),(18,N a),(19,N (c+1))] (τ.set B [.arrv 0 1 (os.set a r)]) e ff1 σ1):LpE a8 3 [(1,bool false),(2,g),(3,k),(4,ref i 0),(11,N n),(12,arr A 0 0 n 1),(13,arr B 0 0 n 1),(14,bool false),(18,N a),(19,N c)] τ e ff1 σ1:=by
 exact Ee [1,2,3,4,11,12,13,14,18,19] [st 2 (QS τ (Dc hf hi)),sp 1 (by rw[hf.Cv hp];exact Dx hp:AJ (.idx 3) [f,N a]=some [some (.vptr p.pv)]),sp 0 (Fx p),st 0 (QS τ (Ef p.ok)),sp 0 (D8 p.ok),sp 0 (Ca .i64 (show(c:Int) < (p.nx.length:Int) by omega)),st 2 (QS τ (Dc hf hi)),sp 1 (by rw[hf.Cv hp];exact Dx hp:AJ (.idx 3) [f,N a]=some [some (.vptr p.pv)]),sp 0 (Fx p),st 0 (QS τ (Ef p.ok)),sp 1 (by rw[p.ok.Cv hx];exact Dg (o:=false) hx:AJ (.idx 1) [p.v,N c]=some [some (.vptr (N b))]),sp 6 (Cw (A:=B) (size:=1) ha),st 0 (QS τ (G9 hB hw2 hl2)),sp 2 (Cw (A:=A) (size:=1) hb),st 0 (QS τ (G9 hA hw hl)),st 0 (oCS τ h ⟨by simp[hl.free,hl.flat,hl2.free,hl2.flat],by simp[hl.dis,hl2.dis],hr.flat,hr.dis⟩),sp 0 (Dm hr),sq 2 (Dm hr),sq 0 (D8 hr),sq 2 (Cw (A:=B) (size:=1) ha),sg 0 (QS τ (G9 hB hw2 hl2)),sq 0 (D8 hl2),sq 0 (neD q.length l2.length),sp 4 (Dm hr),sp 0 (Cw (A:=B) (size:=1) ha),st 0 (Oy hB hw2 hl2 hr),sp 1 (CZ c 1 (by omega))] hnx
theorem AqQ{gl kl:List (List Int)}(hg:BH g gs gl)(hk:BH k ks kl){f:PV}{ps:List Pt}(hf:CE f ps)(hi:τ[i]?=some [f]){fw m:Bool}{a c:Nat}{p:Pt}(hp:ps[a]?=some p)(hc:¬c<p.nx.length):LpE a8 3 [(1,bool fw),(2,g),(3,k),(4,ref i 0),(11,N n),(12,arr A 0 0 n 1),(13,arr B 0 0 n 1),(14,bool m),(18,N a),(19,N c)] τ (.exit 6) [(1,bool fw),(2,g),(3,k),(4,ref i 0),(11,N n),(12,arr A 0 0 n 1),(13,arr B 0 0 n 1),(14,bool m),(18,N a)] τ:=by
 exact Dv [1,2,3,4,11,12,13,14,18] [st 2 (QS τ (Dc hf hi)),sp 1 (by rw[hf.Cv hp];exact Dx hp:AJ (.idx 3) [f,N a]=some [some (.vptr p.pv)]),sp 0 (Fx p),st 0 (QS τ (Ef p.ok)),sp 0 (D8 p.ok),sp 0 (Db .i64 (show ¬(c:Int) < (p.nx.length:Int) by omega))]
theorem q8b{gl kl:List (List Int)}(hg:BH g gs gl)(hk:BH k ks kl){fw m m2:Bool}{a:Nat}{τ2:Sto}(ha:a<n)(hn:n<4000000000)(L:LpE a8 3 [(1,bool fw),(2,g),(3,k),(4,ref i 0),(11,N n),(12,arr A 0 0 n 1),(13,arr B 0 0 n 1),(14,bool m),(18,N a),(19,N 0)] τ (.exit 6) [(1,bool fw),(2,g),(3,k),(4,ref i 0),(11,N n),(12,arr A 0 0 n 1),(13,arr B 0 0 n 1),(14,bool m2),(18,N a)] τ2){e:Bp}{ff1:FF}{σ1:Sto}(hnx:LpE a8 2 [(1,bool fw),(2,g),(3,k),(4,ref i 0),(11,N n),(12,arr A 0 0 n 1),(13,arr B 0 0 n 1),(14,bool m2),(18,N (a+1))] τ2 e ff1 σ1):LpE a8 2 [(1,bool fw),(2,g),(3,k),(4,ref i 0),(11,N n),(12,arr A 0 0 n 1),(13,arr B 0 0 n 1),(14,bool m),(18,N a)] τ e ff1 σ1:=by
 exact Ee [1,2,3,4,11,12,13,14,18] [sp 2 (Ca .i64 (show(a:Int) < (n:Int) by omega)),sl 2 [1,2,3,4,11,12,13,14,18,19] L,sp 1 (CZ a 1 (by omega))] hnx
theorem AqR{gl kl:List (List Int)}(hg:BH g gs gl)(hk:BH k ks kl){fw m:Bool}{a:Nat}(ha:¬a<n):LpE a8 2 [(1,bool fw),(2,g),(3,k),(4,ref i 0),(11,N n),(12,arr A 0 0 n 1),(13,arr B 0 0 n 1),(14,bool m),(18,N a)] τ (.exit 4) [(1,bool fw),(2,g),(3,k),(4,ref i 0),(11,N n),(12,arr A 0 0 n 1),(13,arr B 0 0 n 1),(14,bool m)] τ:=by
 exact Dv [1,2,3,4,11,12,13,14] [sp 2 (Db .i64 (show ¬(a:Int) < (n:Int) by omega))]
theorem q8r{gl kl:List (List Int)}(hg:BH g gs gl)(hk:BH k ks kl){fw m1 m2:Bool}{τ1 τ2:Sto}(L1:LpE a8 1 [(1,bool fw),(2,g),(3,k),(4,ref i 0),(11,N n),(12,arr A 0 0 n 1),(13,arr B 0 0 n 1),(14,bool false),(15,N 0)] τ (.exit 2) [(1,bool fw),(2,g),(3,k),(4,ref i 0),(11,N n),(12,arr A 0 0 n 1),(13,arr B 0 0 n 1),(14,bool m1)] τ1)(L2:LpE a8 2 [(1,bool fw),(2,g),(3,k),(4,ref i 0),(11,N n),(12,arr A 0 0 n 1),(13,arr B 0 0 n 1),(14,bool m1),(18,N 0)] τ1 (.exit 4) [(1,bool fw),(2,g),(3,k),(4,ref i 0),(11,N n),(12,arr A 0 0 n 1),(13,arr B 0 0 n 1),(14,bool m2)] τ2){e:Bp}{ff1:FF}{σ1:Sto}(hnx:LpE a8 0 [(1,bool fw),(2,g),(3,k),(4,ref i 0),(11,N n),(12,arr A 0 0 n 1),(13,arr B 0 0 n 1),(14,bool m2)] τ2 e ff1 σ1):LpE a8 0 [(1,bool fw),(2,g),(3,k),(4,ref i 0),(11,N n),(12,arr A 0 0 n 1),(13,arr B 0 0 n 1),(14,bool true)] τ e ff1 σ1:=by
 exact Ee [1,2,3,4,11,12,13,14] [sl 4 [1,2,3,4,11,12,13,14,15] L1,sl 1 [1,2,3,4,11,12,13,14,18] L2] hnx
theorem q8x{gl kl:List (List Int)}(hg:BH g gs gl)(hk:BH k ks kl){fw:Bool}:LpE a8 0 [(1,bool fw),(2,g),(3,k),(4,ref i 0),(11,N n),(12,arr A 0 0 n 1),(13,arr B 0 0 n 1),(14,bool false)] τ (.exit 0) [(12,arr A 0 0 n 1),(13,arr B 0 0 n 1)] τ:=by
 exact Dv [12,13] []
theorem q8A{ps:List Pt}{gl kl:List (List Int)}(hf:CE f ps)(hg:BH g gs gl)(hk:BH k ks kl)(h10:E 10 [.agg [f]] (τ++[[f]]) (.bool false) (τ++[[f]]++[[f]]++[[f]])):E 8 [.agg [f],.bool fw,g,k] τ (.tuple [.nils,.nils,I 1]) (τ++[[f]]++[[f]]++[[f]]):=by
 exact rule R8 [st 0 (DU (τ:=τ) hf),st 3 (QS (τ++[[f]]) (Ea hf Bv)),st 0 (oW h10 (by kernel_rfl) ⟨by rcases hf with rfl | ⟨rfl,_⟩<;>rfl,rfl,rfl⟩)]
theorem q8B{ps:List Pt}{gl kl:List (List Int)}(hf:CE f ps)(hg:BH g gs gl)(hk:BH k ks kl)(h10:E 10 [.agg [f]] (τ++[[f]]) (.bool true) (τ++[[f]]++[[f]]++[[f]]))(h11g:E 11 [.agg [f],g] [] (.bool false) []):E 8 [.agg [f],.bool fw,g,k] τ (.tuple [.nils,.nils,I 1]) (τ++[[f]]++[[f]]++[[f]]):=by
 exact rule R8 [st 0 (DU (τ:=τ) hf),st 3 (QS (τ++[[f]]) (Ea hf Bv)),st 0 (oW h10 (by kernel_rfl) ⟨by rcases hf with rfl | ⟨rfl,_⟩<;>rfl,rfl,rfl⟩),sg 2 (QS (τ++[[f]]++[[f]]++[[f]]) (Ea hf (id:=τ.length) at3)),sq 0 (BM hg),sg 0 (oCS (τ++[[f]]++[[f]]++[[f]]) h11g (WY hf hg _))]
theorem q8C{ps:List Pt}{gl kl:List (List Int)}(hf:CE f ps)(hg:BH g gs gl)(hk:BH k ks kl)(h10:E 10 [.agg [f]] (τ++[[f]]) (.bool true) (τ++[[f]]++[[f]]++[[f]]))(h11g:E 11 [.agg [f],g] [] (.bool true) [])(h11k:E 11 [.agg [f],k] [] (.bool false) []):E 8 [.agg [f],.bool fw,g,k] τ (.tuple [.nils,.nils,I 1]) (τ++[[f]]++[[f]]++[[f]]):=by
 exact rule R8 [st 0 (DU (τ:=τ) hf),st 3 (QS (τ++[[f]]) (Ea hf Bv)),st 0 (oW h10 (by kernel_rfl) ⟨by rcases hf with rfl | ⟨rfl,_⟩<;>rfl,rfl,rfl⟩),sg 2 (QS (τ++[[f]]++[[f]]++[[f]]) (Ea hf (id:=τ.length) at3)),sq 0 (BM hg),sg 0 (oCS (τ++[[f]]++[[f]]++[[f]]) h11g (WY hf hg _)),sg 3 (QS (τ++[[f]]++[[f]]++[[f]]) (Ea hf (id:=τ.length) at3)),sq 0 (BM hk),sg 0 (oCS (τ++[[f]]++[[f]]++[[f]]) h11k (WY hf hk _))]
theorem q8D{ps:List Pt}{gl kl:List (List Int)}(hf:CE f ps)(hg:BH g gs gl)(hk:BH k ks kl)(h10:E 10 [.agg [f]] (τ++[[f]]) (.bool true) (τ++[[f]]++[[f]]++[[f]]))(h11g:E 11 [.agg [f],g] [] (.bool true) [])(h11k:E 11 [.agg [f],k] [] (.bool true) []){τ2:Sto}(hn:ps.length≤Cr)(L:LpE a8 0 [(1,bool fw),(2,g),(3,k),(4,ref τ.length 0),(11,N ps.length),(12,arr (τ++[[f]]++[[f]]++[[f]]).length 0 0 ps.length 1),(13,arr ((τ++[[f]]++[[f]]++[[f]])++[[PV.arrv 0 1 (List.replicate ps.length PV.nils)]]).length 0 0 ps.length 1),(14,bool true)] (((τ++[[f]]++[[f]]++[[f]])++[[PV.arrv 0 1 (List.replicate ps.length PV.nils)]])++[[PV.arrv 0 1 (List.replicate ps.length PV.nils)]]) (.exit 0) [(12,arr (τ++[[f]]++[[f]]++[[f]]).length 0 0 ps.length 1),(13,arr ((τ++[[f]]++[[f]]++[[f]])++[[PV.arrv 0 1 (List.replicate ps.length PV.nils)]]).length 0 0 ps.length 1)] τ2):E 8 [.agg [f],.bool fw,g,k] τ (.tuple [.arr (τ++[[f]]++[[f]]++[[f]]).length 0 0 ps.length 1,.arr ((τ++[[f]]++[[f]]++[[f]])++[[PV.arrv 0 1 (List.replicate ps.length PV.nils)]]).length 0 0 ps.length 1,I 0]) τ2:=by
 exact rule R8 [st 0 (DU (τ:=τ) hf),st 3 (QS (τ++[[f]]) (Ea hf Bv)),st 0 (oW h10 (by kernel_rfl) ⟨by rcases hf with rfl | ⟨rfl,_⟩<;>rfl,rfl,rfl⟩),sg 2 (QS (τ++[[f]]++[[f]]++[[f]]) (Ea hf (id:=τ.length) at3)),sq 0 (BM hg),sg 0 (oCS (τ++[[f]]++[[f]]++[[f]]) h11g (WY hf hg _)),sg 3 (QS (τ++[[f]]++[[f]]++[[f]]) (Ea hf (id:=τ.length) at3)),sq 0 (BM hk),sg 0 (oCS (τ++[[f]]++[[f]]++[[f]]) h11k (WY hf hk _)),st 4 (QS (τ++[[f]]++[[f]]++[[f]]) (Dc hf (id:=τ.length) at3)),sp 0 (Dj hf),sp 2 (av (z:=.nils) (s:=1) hn ⟨rfl,rfl⟩),sp 1 (av (z:=.nils) (s:=1) hn ⟨rfl,rfl⟩),st 0 (ZF (τ:=(τ++[[f]]++[[f]]++[[f]])) (n:=ps.length) (z:=.nils) (s:=1)),st 0 (ZF (τ:=((τ++[[f]]++[[f]]++[[f]])++[[PV.arrv 0 1 (List.replicate ps.length PV.nils)]])) (n:=ps.length) (z:=.nils) (s:=1)),sl 1 [1,2,3,4,11,12,13,14] L]
end Go.Abs.Z

namespace Go.Abs.Z
open Go.Proofs Go.RowKit
set_option linter.unusedVariables false
open Classical
structure IO(τ:Sto)(A n:Nat)(is:List PV)(S:Nat→List Int):Prop where
 at_:τ[A]?=some [.arrv 0 1 is]
 len:is.length=n
 ls:∀i w,is[i]?=some w→Ls w (S i)
theorem IO.get{τ:Sto}{A n:Nat}{is:List PV}{S:Nat→List Int}(h:IO τ A n is S){a:Nat}(ha:a<n):∃w,is[a]?=some w∧Ls w (S a):=
 ⟨_,Ad (by rw[h.len];exact ha),h.ls a _ (Ad (by rw[h.len];exact ha))⟩
theorem IO.set{τ:Sto}{A n:Nat}{is:List PV}{S:Nat→List Int}(h:IO τ A n is S)(a:Nat){r:PV}{q:List Int}(hr:Ls r q):IO (τ.set A [.arrv 0 1 (is.set a r)]) A n (is.set a r) (Dk S a q):=by
 refine⟨Bg (Ab.1 h.at_).1,by rw[Bw];exact h.len,fun i w hw=>?_⟩
 unfold Dk;rw[BP] at hw;by_cases hai:a=i
 ·subst hai;rw[if_pos rfl] at hw ⊢
  split at hw
  ·cases hw;exact hr
  ·cases hw
 ·rw[if_neg hai] at hw;rw[if_neg (fun e=>hai e.symm)]
  exact h.ls i w hw
theorem IO.other{τ:Sto}{A n B:Nat}{is:List PV}{S:Nat→List Int}{o:List PV}(h:IO τ A n is S)(hne:B≠A):IO (τ.set B o) A n is S:=
 ⟨by rw[Ap hne];exact h.at_,h.len,h.ls⟩
structure Cx8(fw:Bool)(A B n i:Nat)(f g k:PV)(ps:List Pt)(gs ks:List PV)(gl kl:List (List Int)):Prop where
 hf:CE f ps
 hg:BH g gs gl
 hk:BH k ks kl
 hn:n=ps.length
 gn:gl.length=n
 kn:kl.length=n
 ab:A≠B
 ia:i≠A
 ib:i≠B
 gset:D5 gl
 kset:D5 kl
 vld:Gr ps
def nxN(ps:List Pt)(a:Nat):List Nat:=((ps[a]?).map fun p=>p.nx.map Int.toNat).getD []
def EL(fw:Bool)(ps:List Pt)(a:Nat):List (Nat×Nat):=(nxN ps a).map fun b=>if fw then(b,a) else(a,b)
def Lb(fw:Bool)(ps:List Pt):List (Nat×Nat):=(List.range ps.length).flatMap (EL fw ps)
theorem Nb{ps:List Pt}{a:Nat}{p:Pt}(hp:ps[a]?=some p):nxN ps a=p.nx.map Int.toNat:=by unfold nxN;rw[hp];rfl
theorem NZ{fw:Bool}{ps:List Pt}(hv:Gr ps){e:Nat×Nat}(he:e∈Lb fw ps):e.1<ps.length∧e.2<ps.length:=by
 obtain⟨a,ha,hb⟩:=CV.1 he;have ha:=Be.1 ha;obtain⟨b,hb2,rfl⟩:=Ch.1 hb;have hp:=Ad ha;rw[Nb hp] at hb2;obtain⟨x,hx,rfl⟩:=Ch.1 hb2;have:=hv.to _ (AU ha) x hx;cases fw<;>simp<;>omega
def EY{fw:Bool}{A B n i:Nat}{f g k:PV}{ps:List Pt}{gs ks:List PV}{gl kl:List (List Int)}(hc:Cx8 fw A B n i f g k ps gs ks gl kl):Ry where
 n:=n
 es:=Lb fw ps
 gn:=fun i=>gl.getD i []
 kl:=fun i=>kl.getD i []
 hes:=fun e he=>by rw[hc.hn];exact NZ hc.vld he
 hgn:=fun i hi=>by
  rw[Aj,Ad (by rw[hc.gn];exact hi)]
  exact hc.gset _ (AU _)
section
variable{fw:Bool}{A B n i:Nat}{f g k:PV}{ps:List Pt}{gs ks:List PV}{gl kl:List (List Int)}{τ0 τ:Sto}
structure XS(τ0:Sto)(fw:Bool)(τ:Sto)(A B n i:Nat)(f:PV)(S T:Nat→List Int):Prop where
 a:∃is,IO τ A n is (if fw then S else T)
 b:∃os,IO τ B n os (if fw then T else S)
 f:τ[i]?=some [f]
 old:∀id,id≠A→id≠B→τ[id]?=τ0[id]?
abbrev fB(fw m:Bool)(A B n i:Nat)(g k:PV):FF:=[(1,some (.bool fw)),(2,some g),(3,some k),(4,some (.ref i 0)),(11,some (N n)),(12,some (.arr A 0 0 n 1)),(13,some (.arr B 0 0 n 1)),(14,some (.bool m))]
theorem rH(hc:Cx8 fw A B n i f g k ps gs ks gl kl){a:Nat}(ha:a<n):∃wk,ks[a]?=some wk∧Ls wk ((EY hc).kl a)∧k=.slice false 1 ks∧Set' ((EY hc).kl a):=by
 obtain⟨w,h1,h2,h3⟩:=hc.hk.get (j:=a) (by rw[hc.kn];exact ha)
 have e:(EY hc).kl a=kl[a]'(by rw[hc.kn];exact ha):=by
  show kl.getD a []=_;rw[Aj,Ad (by rw[hc.kn];exact ha)];rfl
 rw[e];exact⟨w,h1,h2,h3,hc.kset _ (AU _)⟩
theorem rQ(hc:Cx8 fw A B n i f g k ps gs ks gl kl){a:Nat}(ha:a<n):∃wg,gs[a]?=some wg∧Ls wg ((EY hc).gn a)∧g=.slice false 1 gs∧Set' ((EY hc).gn a):=by
 obtain⟨w,h1,h2,h3⟩:=hc.hg.get (j:=a) (by rw[hc.gn];exact ha)
 have e:(EY hc).gn a=gl[a]'(by rw[hc.gn];exact ha):=by
  show gl.getD a []=_;rw[Aj,Ad (by rw[hc.gn];exact ha)];rfl
 rw[e];exact⟨w,h1,h2,h3,hc.gset _ (AU _)⟩
theorem qL(hc:Cx8 fw A B n i f g k ps gs ks gl kl):n≤1024:=by rw[hc.hn];exact hc.vld.most
theorem iH(hc:Cx8 fw A B n i f g k ps gs ks gl kl):∀(m a:Nat) (τ:Sto) (s:Rt),m=n - a→a≤n→XS τ0 fw τ A B n i f s.S s.T→Gd (EY hc) s.S s.T→
  ∃τ',XS τ0 fw τ' A B n i f ((List.range' a m).foldl (EY hc).st1 s).S ((List.range' a m).foldl (EY hc).st1 s).T∧
   LpE a8 1 (fB fw s.c A B n i g k++[(15,some (N a))]) τ (.exit 2) (fB fw ((List.range' a m).foldl (EY hc).st1 s).c A B n i g k) τ'
 |0,a,τ,s,hm,ha,hx,hg=>⟨τ,hx,AqS hc.hg hc.hk (by omega)⟩
 |m+1,a,τ,s,hm,ha,hx,hg=>by
  have ih:=iH hc m;have han:a<n:=by omega
  have hn:=qL hc;obtain⟨is,hA⟩:=hx.a;obtain⟨os,hB⟩:=hx.b;obtain⟨w,hw,hl⟩:=hA.get han;obtain⟨w2,hw2,hl2⟩:=hB.get han;obtain⟨wg,hwg,hlg,eg,sg⟩:=rQ hc han;obtain⟨wk,hwk,hlk,ek,sk⟩:=rH hc han;have hS:=Gv (hg.sS a han);have lg:=Gv sg;have lk:=Gv sk;have hgd:Gd (EY hc) ((EY hc).st1 s a).S ((EY hc).st1 s a).T:=hg.tV han;rw[Dq,Ci];cases fw with
  |true=>
   obtain⟨r,h18,hr⟩:=e18 τ hl hlg hlk (by simp only[if_true];omega) (by omega)
   have hx':XS τ0 true (τ.set B [.arrv 0 1 (os.set a r)]) A B n i f ((EY hc).st1 s a).S ((EY hc).st1 s a).T:=
    ⟨⟨is,hA.other (Ne.symm hc.ab)⟩,⟨_,hB.set a hr⟩,by rw[Ap (Ne.symm hc.ib)];exact hx.f,fun id h1 h2=>by rw[Ap (Ne.symm h2)];exact hx.old id h1 h2⟩
   obtain⟨τ',h1,h2⟩:=ih (a+1) _ ((EY hc).st1 s a) (by omega) (by omega) hx' hgd
   refine⟨τ',h1,?_⟩
   cases hcm:s.c with
   |true=>
    have e:((EY hc).st1 s a).c=true:=by simp[Ry.st1,hcm]
    rw[e] at h2;exact uw hc.hg hc.hk hA.at_ hB.at_ han (by omega) hw hl hw2 hl2 hwg hlg hwk hlk eg ek hr h18 h2
   |false=>
    have e:((EY hc).st1 s a).c=!decide ((Hf (s.S a) ((EY hc).gn a) ((EY hc).kl a)).length=(s.T a).length):=by simp[Ry.st1,hcm]
    rw[e] at h2;exact uy hc.hg hc.hk hA.at_ hB.at_ han (by omega) hw hl hw2 hl2 hwg hlg hwk hlk eg ek hr h18 h2
  |false=>
   obtain⟨r,h18,hr⟩:=e18 τ hl2 hlg hlk (by simp only[Bool.false_eq_true,if_false];omega) (by omega)
   have hx':XS τ0 false (τ.set A [.arrv 0 1 (is.set a r)]) A B n i f ((EY hc).st1 s a).S ((EY hc).st1 s a).T:=
    ⟨⟨_,hA.set a hr⟩,⟨os,hB.other hc.ab⟩,by rw[Ap (Ne.symm hc.ia)];exact hx.f,fun id h1 h2=>by rw[Ap (Ne.symm h1)];exact hx.old id h1 h2⟩
   obtain⟨τ',h1,h2⟩:=ih (a+1) _ ((EY hc).st1 s a) (by omega) (by omega) hx' hgd
   refine⟨τ',h1,?_⟩
   cases hcm:s.c with
   |true=>
    have e:((EY hc).st1 s a).c=true:=by simp[Ry.st1,hcm]
    rw[e] at h2;exact uz hc.hg hc.hk hA.at_ hB.at_ han (by omega) hw hl hw2 hl2 hwg hlg hwk hlk eg ek hr h18 h2
   |false=>
    have e:((EY hc).st1 s a).c=!decide ((Hf (s.S a) ((EY hc).gn a) ((EY hc).kl a)).length=(s.T a).length):=by simp[Ry.st1,hcm]
    rw[e] at h2;exact uA hc.hg hc.hk hA.at_ hB.at_ han (by omega) hw hl hw2 hl2 hwg hlg hwk hlk eg ek hr h18 h2
theorem rR(hc:Cx8 fw A B n i f g k ps gs ks gl kl){s:Rt}(hg:Gd (EY hc) s.S s.T){e:Nat×Nat}(he:e∈Lb fw ps):Gd (EY hc) (Ry.st2 s e).S (Ry.st2 s e).T:=hg.ou he
theorem iF(hc:Cx8 fw A B n i f g k ps gs ks gl kl){a:Nat}{p:Pt}(hp:ps[a]?=some p)(han:a<n)(hpn:p.nx.length<4000000000):∀(m c:Nat) (τ:Sto) (s:Rt),m=p.nx.length - c→c≤p.nx.length→XS τ0 fw τ A B n i f s.S s.T→Gd (EY hc) s.S s.T→
  ∃τ',XS τ0 fw τ' A B n i f (((EL fw ps a).drop c).foldl (fun s e=>Ry.st2 s e) s).S (((EL fw ps a).drop c).foldl (fun s e=>Ry.st2 s e) s).T∧Gd (EY hc) (((EL fw ps a).drop c).foldl (fun s e=>Ry.st2 s e) s).S (((EL fw ps a).drop c).foldl (fun s e=>Ry.st2 s e) s).T∧
   LpE a8 3 (fB fw s.c A B n i g k++[(18,some (N a)),(19,some (N c))]) τ (.exit 6) (fB fw (((EL fw ps a).drop c).foldl (fun s e=>Ry.st2 s e) s).c A B n i g k++[(18,some (N a))]) τ'
 |0,c,τ,s,hm,hcl,hx,hg=>by
  have e:(EL fw ps a).drop c=[]:=by
   rw[DC];unfold EL;rw[Nb hp];simp;omega
  rw[e];exact⟨τ,hx,hg,AqQ hc.hg hc.hk hc.hf hx.f hp (by omega)⟩
 |m+1,c,τ,s,hm,hcl,hx,hg=>by
  have ih:=iF hc hp han hpn m;have hcl:c<p.nx.length:=by omega
  have hn:=qL hc;have hxc:=Ad hcl;obtain⟨h1,h2⟩:=hc.vld.to p (Az hp) _ (AU hcl);obtain⟨b,hb⟩:∃b:Nat,p.nx[c]=(b:Int):=⟨p.nx[c].toNat,by omega⟩
  rw[hb] at hxc h2;have hbn:b<n:=by rw[hc.hn];omega
  have ed:(EL fw ps a).drop c=(if fw then(b,a) else(a,b))::(EL fw ps a).drop (c+1):=by
   have hlen:c<(EL fw ps a).length:=by
    unfold EL;rw[Nb hp];simpa using hcl
   rw[Bu hlen];congr 1
   have:(EL fw ps a)[c]?=some (if fw then(b,a) else(a,b)):=by
    unfold EL;rw[Nb hp,Af,Af,hxc];simp
   rw[Ad hlen] at this;exact Option.some.inj this
  have hmem:(if fw then(b,a) else(a,b))∈Lb fw ps:=by
   refine CV.2 ⟨a,Be.2 (by rw[←hc.hn];exact han),?_⟩
   have:(if fw then(b,a) else(a,b))∈(EL fw ps a).drop c:=by rw[ed];exact BA ..
   exact List.mem_of_mem_drop this
  rw[ed,Ci];obtain⟨is,hA⟩:=hx.a;obtain⟨os,hB⟩:=hx.b;have hgd:=rR hc hg hmem;cases fw with
  |true=>
   obtain⟨w,hw,hl⟩:=hA.get hbn;obtain⟨w2,hw2,hl2⟩:=hB.get han;have l1:=Gv (hg.sS b hbn);have l2:=Gv (hg.tS a han);obtain⟨r,h33,hr⟩:=e33 hl hl2 (by simp only[if_true];omega)
   have hx':XS τ0 true (τ.set A [.arrv 0 1 (is.set b r)]) A B n i f (Ry.st2 s (b,a)).S (Ry.st2 s (b,a)).T:=
    ⟨⟨_,hA.set b hr⟩,⟨os,hB.other hc.ab⟩,by rw[Ap (Ne.symm hc.ia)];exact hx.f,fun id h1 h2=>by rw[Ap (Ne.symm h1)];exact hx.old id h1 h2⟩
   obtain⟨τ',h3,h4,h5⟩:=ih (c+1) _ (Ry.st2 s (b,a)) (by omega) (by omega) hx' hgd
   refine⟨τ',h3,h4,?_⟩
   cases hcm:s.c with
   |true=>
    have e:(Ry.st2 s (b,a)).c=true:=by simp[Ry.st2,hcm]
    rw[e] at h5;exact uo hc.hg hc.hk hA.at_ hB.at_ hc.hf hx.f hp hcl hpn hxc han hbn (by omega) hr hw hl hw2 hl2 h33 h5
   |false=>
    have e:(Ry.st2 s (b,a)).c=!decide ((Gj (s.S b) (s.T a)).length=(s.S b).length):=by simp[Ry.st2,hcm]
    rw[e] at h5;exact uq hc.hg hc.hk hA.at_ hB.at_ hc.hf hx.f hp hcl hpn hxc han hbn (by omega) hr hw hl hw2 hl2 h33 h5
  |false=>
   obtain⟨w,hw,hl⟩:=hA.get hbn;obtain⟨w2,hw2,hl2⟩:=hB.get han;have l1:=Gv (hg.sS a han);have l2:=Gv (hg.tS b hbn);obtain⟨r,h33,hr⟩:=e33 hl2 hl (by simp only[Bool.false_eq_true,if_false];omega)
   have hx':XS τ0 false (τ.set B [.arrv 0 1 (os.set a r)]) A B n i f (Ry.st2 s (a,b)).S (Ry.st2 s (a,b)).T:=
    ⟨⟨is,hA.other (Ne.symm hc.ab)⟩,⟨_,hB.set a hr⟩,by rw[Ap (Ne.symm hc.ib)];exact hx.f,fun id h1 h2=>by rw[Ap (Ne.symm h2)];exact hx.old id h1 h2⟩
   obtain⟨τ',h3,h4,h5⟩:=ih (c+1) _ (Ry.st2 s (a,b)) (by omega) (by omega) hx' hgd
   refine⟨τ',h3,h4,?_⟩
   cases hcm:s.c with
   |true=>
    have e:(Ry.st2 s (a,b)).c=true:=by simp[Ry.st2,hcm]
    rw[e] at h5;exact ut hc.hg hc.hk hA.at_ hB.at_ hc.hf hx.f hp hcl hpn hxc han hbn (by omega) hr hw hl hw2 hl2 h33 h5
   |false=>
    have e:(Ry.st2 s (a,b)).c=!decide ((Gj (s.S a) (s.T b)).length=(s.S a).length):=by simp[Ry.st2,hcm]
    rw[e] at h5;exact uu hc.hg hc.hk hA.at_ hB.at_ hc.hf hx.f hp hcl hpn hxc han hbn (by omega) hr hw hl hw2 hl2 h33 h5
end
end Go.Abs.Z

namespace Go.Abs.Z
open Go.Proofs Go.RowKit
set_option linter.unusedVariables false
open Classical
section
variable{fw:Bool}{A B n i:Nat}{f g k:PV}{ps:List Pt}{gs ks:List PV}{gl kl:List (List Int)}{τ0 τ:Sto}
theorem iG(hc:Cx8 fw A B n i f g k ps gs ks gl kl)(hps:∀p∈ps,p.nx.length<4000000000):∀(m a:Nat) (τ:Sto) (s:Rt),m=n - a→a≤n→XS τ0 fw τ A B n i f s.S s.T→Gd (EY hc) s.S s.T→
  ∃τ',XS τ0 fw τ' A B n i f (((List.range' a m).flatMap (EL fw ps)).foldl (fun s e=>Ry.st2 s e) s).S (((List.range' a m).flatMap (EL fw ps)).foldl (fun s e=>Ry.st2 s e) s).T∧
   LpE a8 2 (fB fw s.c A B n i g k++[(18,some (N a))]) τ (.exit 4) (fB fw (((List.range' a m).flatMap (EL fw ps)).foldl (fun s e=>Ry.st2 s e) s).c A B n i g k) τ'
 |0,a,τ,s,hm,ha,hx,hg=>⟨τ,hx,AqR hc.hg hc.hk (by omega)⟩
 |m+1,a,τ,s,hm,ha,hx,hg=>by
  have han:a<n:=by omega
  have hn:=qL hc;have hap:a<ps.length:=by rw[←hc.hn];exact han
  have hp:=Ad hap;have hpn:=hps _ (AU hap);obtain⟨τ1,h1,h2,h3⟩:=iF hc hp han hpn ps[a].nx.length 0 τ s (by omega) (by omega) hx hg
  rw[Dz] at h1 h2 h3;obtain⟨τ2,h4,h5⟩:=iG hc hps m (a+1) τ1 _ (by omega) (by omega) h1 h2
  refine⟨τ2,?_,?_⟩
  ·rw[Dq,List.flatMap_cons,List.foldl_append];exact h4
  ·rw[Dq,List.flatMap_cons,List.foldl_append];exact q8b hc.hg hc.hk han (by omega) h3 h5
theorem vB(hc:Cx8 fw A B n i f g k ps gs ks gl kl)(hps:∀p∈ps,p.nx.length<4000000000):∀(m:Nat) (τ:Sto) (S T:Nat→List Int),m=meas (EY hc) S T→XS τ0 fw τ A B n i f S T→Gd (EY hc) S T→
  ∃τ' S' T',XS τ0 fw τ' A B n i f S' T'∧Gd (EY hc) S' T'∧(∀(j v:Nat),j<n→((v:Int)∈S' j↔(EY hc).In j v))∧(∀(j v:Nat),j<n→((v:Int)∈T' j↔(EY hc).R j v))∧
   LpE a8 0 (fB fw true A B n i g k) τ (.exit 0) [(12,some (.arr A 0 0 n 1)),(13,some (.arr B 0 0 n 1))] τ':=by
 intro m
 induction m using Nat.strongRecOn with
 |_ m ih=>
  intro τ S T hm hx hg;obtain⟨τ1,h1,h2⟩:=iH hc n 0 τ ⟨S,T,false⟩ (by omega) (by omega) hx hg
  have hg1:=(Wq (y:=EY hc) (List.range n) ⟨S,T,false⟩ (fun a ha=>Be.1 ha) List.nodup_range hg).1
  rw[Dp] at hg1;obtain⟨τ2,h3,h4⟩:=iG hc hps n 0 τ1 _ (by omega) (by omega) h1 hg1
  have e:((List.range' 0 n).flatMap (EL fw ps)).foldl (fun s e=>Ry.st2 s e) ((List.range' 0 n).foldl (EY hc).st1 ⟨S,T,false⟩)=(EY hc).rnd S T:=by
   unfold Ry.rnd;show _=(Lb fw ps).foldl _ ((List.range n).foldl _ _);unfold Lb;rw[←hc.hn,Dp]
  rw[e] at h3 h4;have hL:∀{e:Bp} {ff1:FF} {σ1:Sto},LpE a8 0 (fB fw ((EY hc).rnd S T).c A B n i g k) τ2 e ff1 σ1→LpE a8 0 (fB fw true A B n i g k) τ e ff1 σ1:=fun h=>q8r hc.hg hc.hk h2 h4 h
  cases hcc:((EY hc).rnd S T).c with
  |false=>
   obtain⟨h5,h6⟩:=hg.still hcc;rw[hcc] at hL;exact⟨τ2,_,_,h3,hg.rnd,h5,h6,hL (q8x hc.hg hc.hk)⟩
  |true=>
   rw[hcc] at hL;obtain⟨τ3,S',T',h5,h6,h7,h8,h9⟩:=ih (meas (EY hc) ((EY hc).rnd S T).S ((EY hc).rnd S T).T) (by rw[hm];exact eU hg hcc) τ2 _ _ rfl h3 hg.rnd
   exact⟨τ3,S',T',h5,h6,h7,h8,hL h9⟩
end
theorem IO.rdd{τ:Sto}{A n:Nat}{is:List PV}{S:Nat→List Int}(h:IO τ A n is S):Rdd τ (.arr A 0 0 n 1) ((List.range n).map S):=by
 refine⟨rfl,rfl,by rw[Av,CK];rfl,fun j l hl=>?_⟩
 rw[Af] at hl;obtain⟨j',hj,rfl⟩:=Ac.1 hl;have hjn:j<n:=by have:=(Ab.1 hj).1;simpa using this
 rw[Cn hjn] at hj;cases hj;obtain⟨w,hw,hls⟩:=h.get hjn;exact⟨_,w,Cw hjn,G9 h.at_ hw hls,hls.rd⟩
theorem e8{τ:Sto}{fw:Bool}{f g k:PV}{ps:List Pt}{gs ks:List PV}{gl kl:List (List Int)}(hf:CE f ps)(hg:BH g gs gl)(hk:BH k ks kl)(hps:∀p∈ps,p.nx.length<4000000000)(hgl:gl.length<4000000000)(hkl:kl.length<4000000000)(hgs:∀l∈gl,l.length<4000000000)(hks:∀l∈kl,l.length<4000000000):
  (¬(Gr ps∧(D5 gl∧gl.length=ps.length)∧(D5 kl∧kl.length=ps.length))∧∃τ',E 8 [.agg [f],.bool fw,g,k] τ (.tuple [.nils,.nils,I 1]) τ'∧∀id,id<τ.length→τ'[id]?=τ[id]?) ∨
  ((Gr ps∧(D5 gl∧gl.length=ps.length)∧(D5 kl∧kl.length=ps.length))∧∃τ' x z S T,E 8 [.agg [f],.bool fw,g,k] τ (.tuple [x,z,I 0]) τ'∧(∀id,id<τ.length→τ'[id]?=τ[id]?)∧
   Rdd τ' x ((List.range ps.length).map (if fw then S else T))∧Rdd τ' z ((List.range ps.length).map (if fw then T else S))∧(∀j,j<ps.length→Set' (S j)∧Set' (T j))∧
   (∀(j v:Nat),j<ps.length→((v:Int)∈S j↔Inn (fun i j=>(i,j)∈Lb fw ps) (fun i v=>i<ps.length∧(v:Int)∈gl.getD i []) (fun i v=>(v:Int)∈kl.getD i []) j v))∧
   (∀(j v:Nat),j<ps.length→((v:Int)∈T j↔Rch (fun i j=>(i,j)∈Lb fw ps) (fun i v=>i<ps.length∧(v:Int)∈gl.getD i []) (fun i v=>(v:Int)∈kl.getD i []) j v))):=by
 have h10:=e10 (τ:=τ++[[f]]) hf hps;have h11g:=e11 hg hf hgl hgs;have h11k:=e11 hk hf hkl hks
 have old:∀(o o2 o3:List PV) id,id<τ.length→(τ++[o]++[o2]++[o3])[id]?=τ[id]?:=fun o o2 o3 id h=>by
  rw[BC,BC,Ae h]
 by_cases hv:Gr ps
 case neg=>
  rw[decide_eq_false hv] at h10;exact .inl ⟨fun h=>hv h.1,_,q8A hf hg hk h10,old _ _ _⟩
 rw[decide_eq_true hv] at h10;by_cases hag:D5 gl∧gl.length=ps.length
 case neg=>
  rw[decide_eq_false hag] at h11g;exact .inl ⟨fun h=>hag h.2.1,_,q8B hf hg hk h10 h11g,old _ _ _⟩
 rw[decide_eq_true hag] at h11g;by_cases hak:D5 kl∧kl.length=ps.length
 case neg=>
  rw[decide_eq_false hak] at h11k;exact .inl ⟨fun h=>hak h.2.2,_,q8C hf hg hk h10 h11g h11k,old _ _ _⟩
 rw[decide_eq_true hak] at h11k;refine .inr ⟨⟨hv,hag,hak⟩,?_⟩
 let S1:Sto:=τ++[[f]]++[[f]]++[[f]]
 let S2:Sto:=S1++[[PV.arrv 0 1 (List.replicate ps.length PV.nils)]]
 let S3:Sto:=S2++[[PV.arrv 0 1 (List.replicate ps.length PV.nils)]]
 have l1:S1.length=τ.length+3:=by simp[S1]
 have l2:S2.length=S1.length+1:=by simp[S2]
 have hc:Cx8 fw S1.length S2.length ps.length τ.length f g k ps gs ks gl kl:=⟨hf,hg,hk,rfl,hag.2,hak.2,by omega,by omega,by omega,hag.1,hak.1,hv⟩
 have rep:∀(i:Nat) (w:PV),(List.replicate ps.length PV.nils)[i]?=some w→Ls w ([]:List Int):=fun i w h=>by
  rw[Cm] at h
  split at h
  ·cases h;exact .inr ⟨rfl,rfl⟩
  ·cases h
 have atA:S3[S1.length]?=some [PV.arrv 0 1 (List.replicate ps.length PV.nils)]:=by
  show(S2++_)[S1.length]?=_;rw[Ae (by omega)]
  exact Bv
 have hx:XS S3 fw S3 S1.length S2.length ps.length τ.length f (fun _=>[]) (fun _=>[]):=by
  refine⟨⟨_,atA,by simp,fun i w h=>by cases fw<;>exact rep i w h⟩,⟨_,Bv,by simp,fun i w h=>by cases fw<;>exact rep i w h⟩,?_,fun _ _ _=>rfl⟩
  show(S2++_)[τ.length]?=_;rw[Ae (by omega)]
  show(S1++_)[τ.length]?=_;rw[Ae (by omega)]
  exact at3
 have hold:∀id,id<τ.length→S3[id]?=τ[id]?:=fun id h=>by
  show(S2++_)[id]?=_;rw[Ae (by omega)]
  show(S1++_)[id]?=_;rw[Ae (by omega)]
  exact old _ _ _ id h
 obtain⟨τ',S,T,h1,h2,h3,h4,h5⟩:=vB hc hps _ S3 _ _ rfl hx Gd.init;have hE:=q8D hf hg hk h10 h11g h11k (by have:=hv.most;show _≤4294967296;omega) h5
 obtain⟨is,hA⟩:=h1.a;obtain⟨os,hB⟩:=h1.b;refine⟨τ',_,_,S,T,hE,?_,?_,?_,fun j hj=>⟨h2.sS j hj,h2.tS j hj⟩,h3,h4⟩
 ·exact fun id h=>(h1.old id (by omega) (by omega)).trans (hold id h)
 ·have:=hA.rdd;cases fw<;>exact this
 ·have:=hB.rdd;cases fw<;>exact this
end Go.Abs.Z

namespace Go.Abs.Z
noncomputable section
open Go.Proofs Go.RowKit
set_option linter.unusedVariables false
open Classical
def LZ(fw:Bool)(ps:List Pt)(a:Nat):List Nat:=if fw then(MJ ps (List.range ps.length) (fun _=>[]) a).map Int.toNat else nxN ps a
theorem YF{fw:Bool}{ps:List Pt}{i j:Nat}(hi:i<ps.length):j∈LZ fw ps i↔(if fw then j<ps.length∧i∈nxN ps j else j∈nxN ps i):=by
 unfold LZ;cases fw with
 |false=>rfl
 |true=>
  simp only[if_true,Ch];constructor
  ·rintro⟨y,hy,rfl⟩
   rcases(Nh _ _).1 hy with h | ⟨a,ha,rfl,x,hx,hxi⟩
   ·cases h
   ·have ha:=Be.1 ha;refine⟨by simpa using ha,?_⟩
    unfold nxN;rw[BN];have hp:=Ad ha;rw[hp] at hx ⊢;exact Ch.2 ⟨x,hx,hxi⟩
  ·rintro⟨hj,h⟩
   refine⟨(j:Int),(Nh _ _).2 (.inr ⟨j,Be.2 hj,rfl,?_⟩),BN j⟩
   unfold nxN at h;have hp:=Ad hj;rw[hp] at h ⊢;obtain⟨x,hx,he⟩:=Ch.1 h;exact⟨x,hx,he⟩
theorem Vf{fw:Bool}{ps:List Pt}(hv:Gr ps){i j:Nat}:(i,j)∈Lb fw ps↔i<ps.length∧j∈LZ fw ps i:=by
 constructor
 ·intro h;have hm:=NZ hv h;refine⟨hm.1,(YF hm.1).2 ?_⟩
  obtain⟨a,ha,hb⟩:=CV.1 h;obtain⟨b,hb2,he⟩:=Ch.1 hb;cases fw<;>simp only[if_true,Bool.false_eq_true,if_false,Prod.mk.injEq] at he ⊢<;>obtain⟨rfl,rfl⟩:=he
  ·exact hb2
  ·exact⟨hm.2,hb2⟩
 ·rintro⟨hi,h⟩
  rw[YF hi] at h;cases fw with
  |true=>
   simp only[if_true] at h;exact CV.2 ⟨j,Be.2 h.1,Ch.2 ⟨i,h.2,rfl⟩⟩
  |false=>
   simp only[Bool.false_eq_true,if_false] at h;exact CV.2 ⟨i,Be.2 hi,Ch.2 ⟨j,h,rfl⟩⟩
def Sb(ls:List (List Int))(n:Nat):Nat→W:=fun i=>if i<n then ofL (ls.getD i []) else zW
theorem Qg{ls:List (List Int)}{n:Nat}(h:D5 ls)(hn:ls.length=n)(i:Nat):(Sb ls n i).length=16:=by
 unfold Sb;split
 ·refine Pm (h _ ?_).2
  rw[Ns (by omega)];exact AU _
 ·exact Hg
def sy7(fw:Bool)(ps:List Pt)(gl kl:List (List Int))(hv:Gr ps)(hg:D5 gl∧gl.length=ps.length)(hk:D5 kl∧kl.length=ps.length):Sy where
 n:=ps.length
 src:=LZ fw ps
 gn:=Sb gl ps.length
 kl:=Sb kl ps.length
 hsrc:=fun i j hi hj=>(NZ hv ((Vf hv).2 ⟨hi,hj⟩:(i,j)∈Lb fw ps)).2
 hgn:=Qg hg.1 hg.2
 hkl:=Qg hk.1 hk.2
section
variable{τ:Sto}{f g k:PV}{ps:List Pt}{gs ks:List PV}{gl kl:List (List Int)}{fw:Bool}
theorem nz{p:Pt}{ps:List Pt}(hv:Gr ps)(hp:p∈ps):(p.nx.map Int.toNat).map (fun x:Nat=>(x:Int))=p.nx:=by
 rw[List.map_map]
 conv=>rhs;rw[←List.map_id p.nx]
 refine DI fun x hx=>?_
 have:=hv.to p hp x hx;show((x.toNat:Nat):Int)=x;omega
theorem AqK(hf:CE f ps)(hv:Gr ps)(hps:∀p∈ps,p.nx.length<4000000000){M i:Nat}{τb:Sto}(hi:τb[i]?=some [f])(hM:i<M):Sc M τb 28 i ps.length (LZ false ps):=fun a ha=>by
 have hp:=Ad ha;have e:LZ false ps a=ps[a].nx.map Int.toNat:=Nb hp;refine⟨ps[a].v,by rw[e,Av];exact hps _ (AU ha),fun τ hl=>q28 hf (by rw[hl i hM];exact hi) hp,fun τ _=>?_⟩
 rw[e,nz hv (AU ha)];exact ps[a].ok.rd
theorem AqJ{τ0 τb:Sto}{B M i:Nat}{es:List PV}{ids:Nat→Nat}(hb:Bf τ0 τb B ps.length (MJ ps (List.range ps.length) fun _=>[]) es ids)(hs:Sht (MJ ps (List.range ps.length) fun _=>[]) ps.length)(hv:Gr ps)(hi:τb[i]?=some [.arr B 0 0 ps.length 1])(hM:i<M)(hBM:B<M)(hid:∀x,x<ps.length→MJ ps (List.range ps.length) (fun _=>[]) x≠[]→ids x<M):Sc M τb 29 i ps.length (LZ true ps):=fun a ha=>by
 obtain⟨L,hL⟩:∃L,MJ ps (List.range ps.length) (fun _=>[]) a=L:=⟨_,rfl⟩
 have e:LZ true ps a=L.map Int.toNat:=by unfold LZ;rw[if_pos rfl,hL]
 have ec:(L.map Int.toNat).map (fun x:Nat=>(x:Int))=L:=by
  rw[List.map_map]
  conv=>rhs;rw[←List.map_id L]
  refine DI fun x hx=>?_
  rw[←hL] at hx;rcases(Nh _ _).1 hx with h | ⟨b,_,rfl,_⟩
  ·cases h
  ·show((((b:Int)).toNat:Nat):Int)=_;rw[BN];rfl
 have hlen:L.length<4000000000:=by
  have:=hv.most;rcases hs a with h | ⟨h,_⟩<;>rw[hL] at h<;>omega
 have hel:=hb.el a ha;rw[hL] at hel;have hid2:=hid a ha;rw[hL] at hid2;have hB:∀τ,Lik M τb τ→τ[B]?=some [.arrv 0 1 es]:=fun τ hl=>by rw[hl B hBM];exact hb.at_
 rw[e,ec,Av];rcases hel with⟨h1,h2⟩ | ⟨h1,h2,h3,h4,h5⟩
 ·refine⟨.nils,hlen,fun τ hl=>q29 ha (by rw[hl i hM];exact hi) (hB τ hl) h2 (.inl rfl),fun τ hl=>?_⟩
  rw[h1];exact(show OY τ .nils [] from .inl ⟨rfl,rfl⟩).rd
 ·refine⟨_,hlen,fun τ hl=>q29 ha (by rw[hl i hM];exact hi) (hB τ hl) h4 (.inr ⟨_,_,_,rfl⟩),fun τ hl=>?_⟩
  exact OY.rd (.inr ⟨ids a,rfl,by rw[hl _ (hid2 h1)];exact h5⟩)
end
end
end Go.Abs.Z

namespace Go.Abs.Z
open Go.Proofs Go.RowKit
set_option linter.unusedVariables false
open Classical
section
variable{f g k:PV}{ps:List Pt}{gs ks:List PV}{gl kl:List (List Int)}{fw:Bool}
theorem Zx{τ:Sto}{n:Nat}:AW (τ++[[PV.arrv 0 16 (List.replicate n (wv zW))]]) τ.length n (fun _=>zW):=by
 unfold AW;rw[Bv];congr 3;refine BI fun i=>?_
 by_cases hi:i<n
 ·rw[FR (S:=fun _=>zW) hi,Cm,if_pos hi]
 ·rw[AA (by rw[Eb];omega),AA (by rw[Av,CK];omega)]
theorem uh{τb:Sto}{G K F i:Nat}(hv:Gr ps)(hg:D5 gl∧gl.length=ps.length)(hk:D5 kl∧kl.length=ps.length)(hG:AW τb G ps.length (Sb gl ps.length))(hK:AW τb K ps.length (Sb kl ps.length))(hsc:Sc τb.length τb F i ps.length (LZ fw ps))(hpf:pur F=false):
  ∃(τ' τ8 τ9:Sto) (X Z:Nat) (S T:Nat→W),LpE a7 0 (fP fw true τb.length (τb++[[PV.arrv 0 16 (List.replicate ps.length (wv zW))]]).length G K F i ps.length) (τb++[[PV.arrv 0 16 (List.replicate ps.length (wv zW))]]++[[PV.arrv 0 16 (List.replicate ps.length (wv zW))]]) (.exit 0) [(1,some (.bool fw)),(18,some (.arr τb.length 0 0 ps.length 16)),(19,some (.arr (τb++[[PV.arrv 0 16 (List.replicate ps.length (wv zW))]]).length 0 0 ps.length 16))] τ'∧
   E 32 [.arr (if fw then τb.length else(τb++[[PV.arrv 0 16 (List.replicate ps.length (wv zW))]]).length) 0 0 ps.length 16] τ' (.arr X 0 0 ps.length 1) τ8∧E 32 [.arr (if fw then(τb++[[PV.arrv 0 16 (List.replicate ps.length (wv zW))]]).length else τb.length) 0 0 ps.length 16] τ8 (.arr Z 0 0 ps.length 1) τ9∧
   (∀id,id<τb.length→τ9[id]?=τb[id]?)∧(∀τs,Old τ9 τs→Rdd τs (.arr X 0 0 ps.length 1) ((List.range ps.length).map fun i=>lst (bit ((if fw then S else T) i))))∧(∀τs,Old τ9 τs→Rdd τs (.arr Z 0 0 ps.length 1) ((List.range ps.length).map fun i=>lst (bit ((if fw then T else S) i))))∧
   (∀i v,i<ps.length→v<1024→(bit (S i) v=true↔(sy7 fw ps gl kl hv hg hk).In i v))∧(∀i v,i<ps.length→v<1024→(bit (T i) v=true↔(sy7 fw ps gl kl hv hg hk).R i v)):=by
 have hm:=hv.most
 have h7:C7 τb.length (τb++[[PV.arrv 0 16 (List.replicate ps.length (wv zW))]]).length G K F i ps.length τb.length τb (sy7 fw ps gl kl hv hg hk):=
  ⟨rfl,hm,by simp,Bd _,by simp,hG,hK,(Ab.1 hG).1,(Ab.1 hK).1,hsc,hpf⟩
 have hx:X7 τb.length (τb++[[PV.arrv 0 16 (List.replicate ps.length (wv zW))]]).length ps.length τb.length τb (τb++[[PV.arrv 0 16 (List.replicate ps.length (wv zW))]]++[[PV.arrv 0 16 (List.replicate ps.length (wv zW))]]) (fun _=>zW) (fun _=>zW):=
  ⟨Zx.old Old.push,Zx,(Old.push.trans Old.push).2⟩
 obtain⟨τ',S,T,h1,h2,h3,h4,h5⟩:=vC (fw:=fw) h7 _ _ _ _ rfl hx Gud.init;have hl1:=(Ab.1 h1.a).1;cases fw with
 |true=>
  obtain⟨τ8,v,X,ho,hL,hE⟩:=e32 h1.a h2.s16 hm;obtain⟨τ9,z,Z,ho2,hL2,hE2⟩:=e32 (h1.c.old ho) h2.t16 hm;have hv1:=hL.v;have hv2:=hL2.v;rw[Av,CK] at hv1 hv2;subst hv1;subst hv2;exact⟨τ',τ8,τ9,X,Z,S,T,h5,hE,hE2,fun id hid=>((ho.trans ho2).2 id (by omega)).trans (h1.l id hid),fun τs hs=>((hL.old ho2).old hs).rdd,fun τs hs=>(hL2.old hs).rdd,h3,h4⟩
 |false=>
  obtain⟨τ8,v,X,ho,hL,hE⟩:=e32 h1.c h2.t16 hm;obtain⟨τ9,z,Z,ho2,hL2,hE2⟩:=e32 (h1.a.old ho) h2.s16 hm;have hv1:=hL.v;have hv2:=hL2.v;rw[Av,CK] at hv1 hv2;subst hv1;subst hv2;exact⟨τ',τ8,τ9,X,Z,S,T,h5,hE,hE2,fun id hid=>((ho.trans ho2).2 id (by omega)).trans (h1.l id hid),fun τs hs=>((hL.old ho2).old hs).rdd,fun τs hs=>(hL2.old hs).rdd,h3,h4⟩
theorem e7{τ:Sto}(hf:CE f ps)(hg:BH g gs gl)(hk:BH k ks kl)(hps:∀p∈ps,p.nx.length<4000000000)(hpl:ps.length<4000000000)(hgs:∀l∈gl,l.length<4000000000)(hks:∀l∈kl,l.length<4000000000):
  (¬(Gr ps∧(D5 gl∧gl.length=ps.length)∧(D5 kl∧kl.length=ps.length))∧∃τ',Old τ τ'∧E 7 [.agg [f],.bool fw,g,k] τ (.tuple [.nils,.nils,I 1]) τ') ∨
  (∃(hv:Gr ps) (hag:D5 gl∧gl.length=ps.length) (hak:D5 kl∧kl.length=ps.length),∃(τ':Sto) (x z:PV) (S T:Nat→W),E 7 [.agg [f],.bool fw,g,k] τ (.tuple [x,z,I 0]) τ'∧Old τ τ'∧
   (∀τs,Old τ' τs→Rdd τs x ((List.range ps.length).map fun i=>lst (bit ((if fw then S else T) i))))∧(∀τs,Old τ' τs→Rdd τs z ((List.range ps.length).map fun i=>lst (bit ((if fw then T else S) i))))∧
   (∀i v,i<ps.length→v<1024→(bit (S i) v=true↔(sy7 fw ps gl kl hv hag hak).In i v))∧(∀i v,i<ps.length→v<1024→(bit (T i) v=true↔(sy7 fw ps gl kl hv hag hak).R i v))):=by
 rcases e26 (τ:=τ++[[f]]) hf hps with⟨hnv,τ1,ho1,h26⟩ | ⟨hv,τ1,B,es,ids,hb,hsh,h26⟩
 ·obtain⟨τ3,ho3,h3⟩:=e27 (τ1++[[.nils]]) hg ps.length hpl hgs;obtain⟨τ4,ho4,h4⟩:=e27 τ3 hk ps.length hpl hks;have hi:τ1[τ.length]?=some [f]:=ho1.get Bv;have hro:τ4[τ1.length]?=some [PV.nils]:=(ho3.trans ho4).get Bv;refine .inl ⟨fun h=>hnv h.1,τ4,(((Old.push.trans ho1).trans Old.push).trans ho3).trans ho4,?_⟩
  rcases h3 with⟨_,G,_,_,hg27⟩ | ⟨_,hg27⟩<;>rcases h4 with⟨_,K,_,_,hk27⟩ | ⟨_,hk27⟩
  ·exact uB hf hg hk h26 hi hg27 hk27 hro
  ·exact uC hf hg hk h26 hi hg27 hk27 hro
  ·exact uD hf hg hk h26 hi hg27 hk27 hro
  ·exact uE hf hg hk h26 hi hg27 hk27 hro
 ·obtain⟨τ3,ho3,h3⟩:=e27 (τ1++[[.arr B 0 0 ps.length 1]]) hg ps.length hpl hgs;obtain⟨τ4,ho4,h4⟩:=e27 τ3 hk ps.length hpl hks;have ho1:=hb.old;have hi:τ1[τ.length]?=some [f]:=ho1.get Bv;have hro:τ4[τ1.length]?=some [PV.arr B 0 0 ps.length 1]:=(ho3.trans ho4).get Bv;have hoA:Old τ τ4:=(((Old.push.trans ho1).trans Old.push).trans ho3).trans ho4;have h0:0<ps.length:=by have:=hv.two;omega
  rcases h3 with⟨hag,G,hGl,hG,hg27⟩ | ⟨hag,hg27⟩
  ·rcases h4 with⟨hak,K,hKl,hK,hk27⟩ | ⟨hak,hk27⟩
   ·refine .inr ⟨hv,hag,hak,?_⟩
    have hb4:Bf (τ++[[f]]) τ4 B ps.length (MJ ps (List.range ps.length) fun _=>[]) es ids:=by
     have ho:Old τ1 τ4:=(Old.push.trans ho3).trans ho4
     exact⟨ho.get hb.at_,hb.len,hb.inj,fun x hx=>by
      rcases hb.el x hx with h | ⟨h1,h2,h3,h5,h6⟩
      ·exact .inl h
      ·exact .inr ⟨h1,h2,h3,h5,ho.get h6⟩,hb.old.trans ho,hb.b0⟩
    have hi4:τ4[τ.length]?=some [f]:=((Old.push.trans ho3).trans ho4).get hi;have lt:∀{id:Nat} {o:List PV},τ4[id]?=some o→id<τ4.length:=fun h=>(Ab.1 h).1
    have hmx:ps.length≤Cr:=by have:=hv.most;show ps.length≤4294967296;omega
    cases fw with
    |true=>
     have hsc:=AqJ (M:=τ4.length) hb4 hsh hv hro (lt hro) (lt hb4.at_) fun x hx hne=>by
      rcases hb4.el x hx with⟨h,_⟩ | ⟨_,_,_,_,h6⟩
      ·exact absurd h hne
      ·exact lt h6
     obtain⟨τ',τ8,τ9,X,Z,S,T,h1,h2,h3,h5,h6,h7,h8,h9⟩:=uh (fw:=true) hv hag hak (hG.old ho4) hK hsc (by kernel_rfl)
     exact⟨τ9,_,_,S,T,AqV hf hg hk h26 hi hg27 hk27 hro h0 hmx h1 h2 h3,⟨Nat.le_of_not_lt fun hlt=>by
      have:=hoA.1;have h10:=h5 τ9.length (by omega)
      rw[AA (Bd _)] at h10;have:=List.getElem?_eq_none_iff.1 h10.symm
      omega,fun id hid=>(h5 id (by have:=hoA.1;omega)).trans (hoA.2 id hid)⟩,h6,h7,h8,h9⟩
    |false=>
     have hsc:=AqK (M:=τ4.length) hf hv hps hi4 (lt hi4);obtain⟨τ',τ8,τ9,X,Z,S,T,h1,h2,h3,h5,h6,h7,h8,h9⟩:=uh (fw:=false) hv hag hak (hG.old ho4) hK hsc (by kernel_rfl)
     exact⟨τ9,_,_,S,T,AqW hf hg hk h26 hi hg27 hk27 hro h0 hmx h1 h2 h3,⟨Nat.le_of_not_lt fun hlt=>by
      have:=hoA.1;have h10:=h5 τ9.length (by omega)
      rw[AA (Bd _)] at h10;have:=List.getElem?_eq_none_iff.1 h10.symm
      omega,fun id hid=>(h5 id (by have:=hoA.1;omega)).trans (hoA.2 id hid)⟩,h6,h7,h8,h9⟩
   ·exact .inl ⟨fun h=>hak h.2.2,τ4,hoA,q7C hf hg hk h26 hi hg27 hk27 hro h0⟩
  ·rcases h4 with⟨_,K,_,_,hk27⟩ | ⟨_,hk27⟩
   ·exact .inl ⟨fun h=>hag h.2.1,τ4,hoA,AqX hf hg hk h26 hi hg27 hk27 hro h0⟩
   ·exact .inl ⟨fun h=>hag h.2.1,τ4,hoA,AqY hf hg hk h26 hi hg27 hk27 hro h0⟩
end
end Go.Abs.Z

namespace Go.Abs.Z
open Go.Proofs Go.RowKit
set_option linter.unusedVariables false
set_option linter.unusedSimpArgs false
variable{τ τ2 τ3 τ4:Sto}{f g k:PV}{gs ks:List PV}{fw:Bool}
theorem e5(σ:Sto):E 5 [] σ (.bool true) σ:=Tn 0 fun k _=>by kernel_rfl
theorem R3:Rn 3 a3:=fun _ _ _=>by kernel_rfl
theorem q3a{ps:List Pt}{gl kl:List (List Int)}(hf:CE f ps)(hg:BH g gs gl)(hk:BH k ks kl)(h6:E 6 [.agg [f],I 14] (τ++[[f]]) (.bool false) τ2):E 3 [.agg [f],.bool fw,g,k] τ (.bool true) τ2:=by
 exact rule R3 [st 0 (DU (τ:=τ) hf),st 1 (oW (e5 (τ++[[f]])) (by kernel_rfl) ⟨rfl,rfl,rfl⟩),st 2 (QS (τ++[[f]]) (Ea hf Bv)),st 0 (oW h6 (by kernel_rfl) ⟨by rcases hf with rfl | ⟨rfl,_⟩<;>rfl,rfl,rfl⟩)]
theorem q3b{ps:List Pt}{gl kl:List (List Int)}(hf:CE f ps)(hg:BH g gs gl)(hk:BH k ks kl)(h6:E 6 [.agg [f],I 14] (τ++[[f]]) (.bool true) τ2)(h:gl.length>20):E 3 [.agg [f],.bool fw,g,k] τ (.bool true) τ2:=by
 exact rule R3 [st 0 (DU (τ:=τ) hf),st 1 (oW (e5 (τ++[[f]])) (by kernel_rfl) ⟨rfl,rfl,rfl⟩),st 2 (QS (τ++[[f]]) (Ea hf Bv)),st 0 (oW h6 (by kernel_rfl) ⟨by rcases hf with rfl | ⟨rfl,_⟩<;>rfl,rfl,rfl⟩),sq 2 (BM hg),sq 0 (ED hg),sq 0 (I9 .i64 (show(gl.length:Int) > 20 by omega))]
theorem q3c{ps:List Pt}{gl kl:List (List Int)}(hf:CE f ps)(hg:BH g gs gl)(hk:BH k ks kl)(h6:E 6 [.agg [f],I 14] (τ++[[f]]) (.bool true) τ2)(h:¬gl.length>20)(h2:kl.length>20):E 3 [.agg [f],.bool fw,g,k] τ (.bool true) τ2:=by
 exact rule R3 [st 0 (DU (τ:=τ) hf),st 1 (oW (e5 (τ++[[f]])) (by kernel_rfl) ⟨rfl,rfl,rfl⟩),st 2 (QS (τ++[[f]]) (Ea hf Bv)),st 0 (oW h6 (by kernel_rfl) ⟨by rcases hf with rfl | ⟨rfl,_⟩<;>rfl,rfl,rfl⟩),sq 2 (BM hg),sq 0 (ED hg),sq 0 (FU .i64 (show ¬(gl.length:Int) > 20 by omega)),sq 2 (BM hk),sq 0 (ED hk),sq 0 (I9 .i64 (show(kl.length:Int) > 20 by omega))]
theorem q3d{ps:List Pt}{gl kl:List (List Int)}(hf:CE f ps)(hg:BH g gs gl)(hk:BH k ks kl)(h6:E 6 [.agg [f],I 14] (τ++[[f]]) (.bool true) τ2)(h:¬gl.length>20)(h2:¬kl.length>20)(hi2:τ2[τ.length]?=some [f])(hi3:τ3[τ.length]?=some [f]){x z u w:PV}{lx lz lu lw:List (List Int)}(h7:E 7 [.agg [f],.bool fw,g,k] τ2 (.tuple [x,z,I 0]) τ3)(h8:E 8 [.agg [f],.bool fw,g,k] τ3 (.tuple [u,w,I 0]) τ4)(hx3:Rdd τ3 x lx)(hz3:Rdd τ3 z lz)(hx4:Rdd τ4 x lx)(hz4:Rdd τ4 z lz)(hu4:Rdd τ4 u lu)(hw4:Rdd τ4 w lw)(h9:E 9 [x,u] τ4 (.bool true) τ4)(h9b:E 9 [z,w] τ4 (.bool true) τ4):E 3 [.agg [f],.bool fw,g,k] τ (.bool true) τ4:=by
 have dx3:=hx3.dis;have dz3:=hz3.dis;have du4:=hu4.dis;have dw4:=hw4.dis;have rx3:[x,z,I 0].all PV.free=true:=by simp only[AQ,Bh,hx3.free,hz3.free];rfl
 have ru4:[u,w,I 0].all PV.free=true:=by simp only[AQ,Bh,hu4.free,hw4.free];rfl
 exact rule R3 [st 0 (DU (τ:=τ) hf),st 1 (oW (e5 (τ++[[f]])) (by kernel_rfl) ⟨rfl,rfl,rfl⟩),st 2 (QS (τ++[[f]]) (Ea hf Bv)),st 0 (oW h6 (by kernel_rfl) ⟨by rcases hf with rfl | ⟨rfl,_⟩<;>rfl,rfl,rfl⟩),sq 2 (BM hg),sq 0 (ED hg),sq 0 (FU .i64 (show ¬(gl.length:Int) > 20 by omega)),sq 2 (BM hk),sq 0 (ED hk),sq 0 (FU .i64 (show ¬(kl.length:Int) > 20 by omega)),st 2 (QS τ2 (Ea hf hi2)),sp 1 (BM hg),sp 0 (BM hk),st 0 (oW h7 (by kernel_rfl) ⟨by simp only[AL,AR,hg.dis,hk.dis];rcases hf with rfl | ⟨rfl,_⟩<;>rfl,by simp only[AQ,Bh,hg.free,hk.free];rfl,rfl⟩),sp 1 (Hd 0 (v:=x) (x:=x) rfl ⟨rx3,dx3⟩),sp 0 (Hd 1 (v:=z) (x:=z) rfl ⟨rx3,dz3⟩),sp 0 (Hd 2 (v:=I 0) (x:=I 0) rfl ⟨rx3,rfl⟩),sp 0 hx3.mv,sp 0 hz3.mv,st 1 (QS τ3 (Ea hf hi3)),sp 1 (BM hg),sp 0 (BM hk),st 0 (oW h8 (by kernel_rfl) ⟨by simp only[AL,AR,hg.dis,hk.dis];rcases hf with rfl | ⟨rfl,_⟩<;>rfl,by simp only[AQ,Bh,hg.free,hk.free];rfl,rfl⟩),sp 1 (Hd 0 (v:=u) (x:=u) rfl ⟨ru4,du4⟩),sp 0 (Hd 1 (v:=w) (x:=w) rfl ⟨ru4,dw4⟩),sp 0 (Hd 2 (v:=I 0) (x:=I 0) rfl ⟨ru4,rfl⟩),sp 0 hu4.mv,sp 0 hw4.mv,sq 5 hx4.mv,sq 0 hu4.mv,sg 0 (oW h9 (by kernel_rfl) ⟨by simp only[AL,AR,hx4.dis,hu4.dis],by simp only[AQ,Bh,hx4.free,hu4.free];rfl,rfl⟩),sq 2 hz4.mv,sq 0 hw4.mv,sg 0 (oW h9b (by kernel_rfl) ⟨by simp only[AL,AR,hz4.dis,hw4.dis],by simp only[AQ,Bh,hz4.free,hw4.free];rfl,rfl⟩)]
theorem q3e{ps:List Pt}{gl kl:List (List Int)}(hf:CE f ps)(hg:BH g gs gl)(hk:BH k ks kl)(h6:E 6 [.agg [f],I 14] (τ++[[f]]) (.bool true) τ2)(h:¬gl.length>20)(h2:¬kl.length>20)(hi2:τ2[τ.length]?=some [f])(hi3:τ3[τ.length]?=some [f]){x z u w:PV}{lx lz lu lw:List (List Int)}(h7:E 7 [.agg [f],.bool fw,g,k] τ2 (.tuple [x,z,I 1]) τ3)(h8:E 8 [.agg [f],.bool fw,g,k] τ3 (.tuple [u,w,I 1]) τ4)(hx3:Rdd τ3 x lx)(hz3:Rdd τ3 z lz)(hx4:Rdd τ4 x lx)(hz4:Rdd τ4 z lz)(hu4:Rdd τ4 u lu)(hw4:Rdd τ4 w lw)(h9:E 9 [x,u] τ4 (.bool true) τ4)(h9b:E 9 [z,w] τ4 (.bool true) τ4):E 3 [.agg [f],.bool fw,g,k] τ (.bool true) τ4:=by
 have dx3:=hx3.dis;have dz3:=hz3.dis;have du4:=hu4.dis;have dw4:=hw4.dis;have rx3:[x,z,I 1].all PV.free=true:=by simp only[AQ,Bh,hx3.free,hz3.free];rfl
 have ru4:[u,w,I 1].all PV.free=true:=by simp only[AQ,Bh,hu4.free,hw4.free];rfl
 exact rule R3 [st 0 (DU (τ:=τ) hf),st 1 (oW (e5 (τ++[[f]])) (by kernel_rfl) ⟨rfl,rfl,rfl⟩),st 2 (QS (τ++[[f]]) (Ea hf Bv)),st 0 (oW h6 (by kernel_rfl) ⟨by rcases hf with rfl | ⟨rfl,_⟩<;>rfl,rfl,rfl⟩),sq 2 (BM hg),sq 0 (ED hg),sq 0 (FU .i64 (show ¬(gl.length:Int) > 20 by omega)),sq 2 (BM hk),sq 0 (ED hk),sq 0 (FU .i64 (show ¬(kl.length:Int) > 20 by omega)),st 2 (QS τ2 (Ea hf hi2)),sp 1 (BM hg),sp 0 (BM hk),st 0 (oW h7 (by kernel_rfl) ⟨by simp only[AL,AR,hg.dis,hk.dis];rcases hf with rfl | ⟨rfl,_⟩<;>rfl,by simp only[AQ,Bh,hg.free,hk.free];rfl,rfl⟩),sp 1 (Hd 0 (v:=x) (x:=x) rfl ⟨rx3,dx3⟩),sp 0 (Hd 1 (v:=z) (x:=z) rfl ⟨rx3,dz3⟩),sp 0 (Hd 2 (v:=I 1) (x:=I 1) rfl ⟨rx3,rfl⟩),sp 0 hx3.mv,sp 0 hz3.mv,st 1 (QS τ3 (Ea hf hi3)),sp 1 (BM hg),sp 0 (BM hk),st 0 (oW h8 (by kernel_rfl) ⟨by simp only[AL,AR,hg.dis,hk.dis];rcases hf with rfl | ⟨rfl,_⟩<;>rfl,by simp only[AQ,Bh,hg.free,hk.free];rfl,rfl⟩),sp 1 (Hd 0 (v:=u) (x:=u) rfl ⟨ru4,du4⟩),sp 0 (Hd 1 (v:=w) (x:=w) rfl ⟨ru4,dw4⟩),sp 0 (Hd 2 (v:=I 1) (x:=I 1) rfl ⟨ru4,rfl⟩),sp 0 hu4.mv,sp 0 hw4.mv,sq 5 hx4.mv,sq 0 hu4.mv,sg 0 (oW h9 (by kernel_rfl) ⟨by simp only[AL,AR,hx4.dis,hu4.dis],by simp only[AQ,Bh,hx4.free,hu4.free];rfl,rfl⟩),sq 2 hz4.mv,sq 0 hw4.mv,sg 0 (oW h9b (by kernel_rfl) ⟨by simp only[AL,AR,hz4.dis,hw4.dis],by simp only[AQ,Bh,hz4.free,hw4.free];rfl,rfl⟩)]
end Go.Abs.Z
