/- A part of the proof: WJ KK WD KD KE KL ShC PK QA KX WL KR KM WK KN KS. -/
import Derived.Test.YtbkjmbhabkkoeaaGreatDoorKbe
import Derived.Test.YtbkjmbhabkkoeaaGreatDoorKbd
import Derived.Ground.Names2Prog
import Derived.Shelf.Slices.CompactI
import Derived.Test.YtbkjmbhabkkoeaaGreatDoorProg
import Derived.Test.YtbkjmbhabkkoeaaGreatDoorKao

set_option linter.unusedVariables false
set_option linter.unusedSimpArgs false
namespace Go.Abs.Z
open PV
open Go.Proofs Go.RowKit
set_option linter.unusedVariables false
set_option linter.unusedSimpArgs false
section
variable{τ:Sto}{C a id:Nat}{es:List PV}{r:PV}{w z:W}
theorem qO(h:Lp r):EM pur run (.w (.stO 1)) [.hole 1,r] τ [some (.ref τ.length 0)] (τ++[[r]]):=by
 rcases h with rfl | ⟨_,_,_,rfl⟩<;>exact⟨0,fun _ _=>rfl⟩
theorem rJ(h:τ[id]?=some [r])(ho:Lp r):BR (.ld 1 false) [.ref id 0] τ=some [some r]:=by
 refine Xk ?_ (NE ho)
 rw[h];rcases ho with rfl | ⟨_,_,_,rfl⟩<;>rfl
theorem rO(hC:τ[C]?=some [.arrv 0 16 es])(hz:es[a]?=some (wv z))(lz:z.length=16):BR (.ld 16 true) [.aptr C 0 16 a 0] τ=some [some (wv z)]:=by
 have e1:((z.map wc).drop 0).take 16=z.map wc:=by rw[CS,BC (by rw[Am];omega)]
 have e2:Yg (wv z) 0 16 true=some (wv z):=by
  show(if 0+16≤(z.map wc).length then Iu (((z.map wc).drop 0).take 16) else none)=_
  rw[e1,if_pos (by rw[Am];omega)]
  unfold Iu;rw[if_pos Js];rfl
 simp only[BR,hC,Dq,and_self,if_true,hz,e2,Ay,Fy]
theorem lQ:∀(a b:W),a.length=b.length→eqL (List.replicate a.length 0) (a.map wc) (b.map wc)=some (decide (a=b))
 |[],[],_=>rfl
 |X::a,Y::b,h=>by
  have ih:=lQ a b (by simpa using h)
  have e:eqC 0 (wc X) (wc Y)=some ((X.toNat:Int)==(Y.toNat:Int)):=rfl;rw[AR,AR,BI,EY];unfold eqL;rw[e];by_cases hXY:X=Y
  ·subst hXY;rw[show((X.toNat:Int)==(X.toNat:Int))=true from by simp]
   simp only[ih,List.cons.injEq,true_and]
  ·have hne:¬(X.toNat:Int)=(Y.toNat:Int):=fun he=>hXY (BitVec.eq_of_toNat_eq (by omega))
   rw[show((X.toNat:Int)==(Y.toNat:Int))=false from by simpa using hne]
   simp only[List.cons.injEq,hXY,false_and,decide_false]
theorem vZ(lw:w.length=16)(he:w=z):AJ (.aeq true [0,0,0,0,0,0,0,0,0,0,0,0,0,0,0,0]) [wv w,wv z]=some [some (.bool false)]:=by
 have h:=lQ w z (by rw[he])
 rw[lw,decide_eq_true he] at h;show(eqL (List.replicate 16 0) (w.map wc) (z.map wc)).map (fun b=>[some (PV.bool (b != true))])=_
 rw[h];rfl
theorem vY(lw:w.length=16)(lz:z.length=16)(he:w≠z):AJ (.aeq true [0,0,0,0,0,0,0,0,0,0,0,0,0,0,0,0]) [wv w,wv z]=some [some (.bool true)]:=by
 have h:=lQ w z (by omega)
 rw[lw,decide_eq_false he] at h;show(eqL (List.replicate 16 0) (w.map wc) (z.map wc)).map (fun b=>[some (PV.bool (b != true))])=_
 rw[h];rfl
end
variable{τ τ2 τ0 τ1 τ3 τ4:Sto}{fw m:Bool}{A C G K F i n a c B:Nat}{v f g k:PV}{es gs ks:List PV}
theorem R7:Rn 7 a7:=fun _ _ _=>by kernel_rfl
theorem q7c{x:Nat}{q:PV}{l:List Int}(hv:Rd τ v l)(hc:c<l.length)(hl:l.length<4000000000)(ip:AJ (.idx 1) [v,N c]=some [some q])(lp:BR (.ld 1 false) [q] τ=some [some (N x)])(ha:a<n)(hx:x<n)(h:E 30 [.aptr A 0 16 a 0,.aptr C 0 16 x 0] τ (.tuple []) τ2){e:Bt}{ff1:FF}{σ1:Sto}(hnx:LpE a7 2 [(1,bool fw),(12,N n),(13,arr G 0 0 n 16),(15,arr K 0 0 n 16),(17,func F [] [.ref i 0]),(18,arr A 0 0 n 16),(19,arr C 0 0 n 16),(20,bool m),(21,N a),(61,N n),(62,N a),(67,v),(68,N l.length),(69,N (c+1))] τ2 e ff1 σ1):LpE a7 2 [(1,bool fw),(12,N n),(13,arr G 0 0 n 16),(15,arr K 0 0 n 16),(17,func F [] [.ref i 0]),(18,arr A 0 0 n 16),(19,arr C 0 0 n 16),(20,bool m),(21,N a),(61,N n),(62,N a),(67,v),(68,N l.length),(69,N c)] τ e ff1 σ1:=by
 exact ER [1,12,13,15,17,18,19,20,21,61,62,67,68,69] [sp 0 (Cm .i64 (show(c:Int) < (l.length:Int) by omega)),sp 1 ip,st 0 (QS τ lp),sp 3 (DX (A:=A) (size:=16) ha),sp 2 (DX (A:=C) (size:=16) hx),st 0 (oW h (by kernel_rfl) ⟨rfl,rfl,rfl⟩),sp 0 (Di c 1 (by omega))] hnx
theorem Aj0{l:List Int}(hc:¬c<l.length):LpE a7 2 [(1,bool fw),(12,N n),(13,arr G 0 0 n 16),(15,arr K 0 0 n 16),(17,func F [] [.ref i 0]),(18,arr A 0 0 n 16),(19,arr C 0 0 n 16),(20,bool m),(21,N a),(61,N n),(62,N a),(67,v),(68,N l.length),(69,N c)] τ (.exit 4) [(1,bool fw),(12,N n),(13,arr G 0 0 n 16),(15,arr K 0 0 n 16),(17,func F [] [.ref i 0]),(18,arr A 0 0 n 16),(19,arr C 0 0 n 16),(20,bool m),(21,N a),(61,N n),(62,N a)] τ:=by
 exact DR [1,12,13,15,17,18,19,20,21,61,62] [sp 0 (CY .i64 (show ¬(c:Int) < (l.length:Int) by omega))]
theorem q7s{w:W}(hA:τ[A]?=some [.arrv 0 16 es])(hw:es[a]?=some (wv w))(lw:w.length=16){fs:List PV}{u:W}(hK:τ[K]?=some [.arrv 0 16 fs])(hu:fs[a]?=some (wv u))(lu:u.length=16){gs:List PV}{x:W}(hG:τ[G]?=some [.arrv 0 16 gs])(hx:gs[a]?=some (wv x))(lx:x.length=16){cs:List PV}{z:W}(hC:τ[C]?=some [.arrv 0 16 cs])(hz:cs[a]?=some (wv z))(lz:z.length=16){v:PV}{l:List Int}(hp:pur F=false)(hv:Rd τ0 v l)(ha:a<n)(hn:n<4000000000)(hs:E F [N a,.ref i 0] τ0 v τ0)(L:LpE a7 2 [(1,bool fw),(12,N n),(13,arr G 0 0 n 16),(15,arr K 0 0 n 16),(17,func F [] [.ref i 0]),(18,arr A 0 0 n 16),(19,arr C 0 0 n 16),(20,bool m),(21,N a),(61,N n),(62,N a),(67,v),(68,N l.length),(69,N 0)] τ0 (.exit 4) [(1,bool fw),(12,N n),(13,arr G 0 0 n 16),(15,arr K 0 0 n 16),(17,func F [] [.ref i 0]),(18,arr A 0 0 n 16),(19,arr C 0 0 n 16),(20,bool m),(21,N a),(61,N n),(62,N a)] τ)(h:E 31 [.aptr A 0 16 a 0,.aptr K 0 16 a 0,.aptr G 0 16 a 0] τ (wv (ps w u x)) τ)(he:ps w u x=z){e:Bt}{ff1:FF}{σ1:Sto}(hnx:LpE a7 1 [(1,bool fw),(12,N n),(13,arr G 0 0 n 16),(15,arr K 0 0 n 16),(17,func F [] [.ref i 0]),(18,arr A 0 0 n 16),(19,arr C 0 0 n 16),(20,bool m),(61,N n),(62,N (a+1))] (τ++[(wv (ps w u x)).cells]) e ff1 σ1):LpE a7 1 [(1,bool fw),(12,N n),(13,arr G 0 0 n 16),(15,arr K 0 0 n 16),(17,func F [] [.ref i 0]),(18,arr A 0 0 n 16),(19,arr C 0 0 n 16),(20,bool m),(61,N n),(62,N a)] τ0 e ff1 σ1:=by
 have lps:=OB lw lu lx;exact ER [1,12,13,15,17,18,19,20,61,62] [sp 0 (Cm .i64 (show(a:Int) < (n:Int) by omega)),st 5 (WV (fs:=[]) (cs:=[.ref i 0]) (vs:=[N a]) hs hp rfl rfl hv.dis),sp 0 hv.len,sl 1 [1,12,13,15,17,18,19,20,21,61,62,67,68,69] L,sp 2 (DX (A:=A) (size:=16) ha),sp 2 (DX (A:=K) (size:=16) ha),sp 2 (DX (A:=G) (size:=16) ha),st 0 (oW h (by kernel_rfl) ⟨rfl,rfl,Fy⟩),st 1 (Zu (τ:=τ) (w:=ps w u x) lps),st 0 (QS (τ++[(wv (ps w u x)).cells]) (Vk lps Bp)),sp 2 (DX (A:=C) (size:=16) ha),st 0 (QS (τ++[(wv (ps w u x)).cells]) (rO (Hw hC) hz lz)),sp 0 (vZ lps he),sp 1 (Di a 1 (by omega))] hnx
theorem q7d{w:W}(hA:τ[A]?=some [.arrv 0 16 es])(hw:es[a]?=some (wv w))(lw:w.length=16){fs:List PV}{u:W}(hK:τ[K]?=some [.arrv 0 16 fs])(hu:fs[a]?=some (wv u))(lu:u.length=16){gs:List PV}{x:W}(hG:τ[G]?=some [.arrv 0 16 gs])(hx:gs[a]?=some (wv x))(lx:x.length=16){cs:List PV}{z:W}(hC:τ[C]?=some [.arrv 0 16 cs])(hz:cs[a]?=some (wv z))(lz:z.length=16){v:PV}{l:List Int}(hp:pur F=false)(hv:Rd τ0 v l)(ha:a<n)(hn:n<4000000000)(hs:E F [N a,.ref i 0] τ0 v τ0)(L:LpE a7 2 [(1,bool fw),(12,N n),(13,arr G 0 0 n 16),(15,arr K 0 0 n 16),(17,func F [] [.ref i 0]),(18,arr A 0 0 n 16),(19,arr C 0 0 n 16),(20,bool m),(21,N a),(61,N n),(62,N a),(67,v),(68,N l.length),(69,N 0)] τ0 (.exit 4) [(1,bool fw),(12,N n),(13,arr G 0 0 n 16),(15,arr K 0 0 n 16),(17,func F [] [.ref i 0]),(18,arr A 0 0 n 16),(19,arr C 0 0 n 16),(20,bool m),(21,N a),(61,N n),(62,N a)] τ)(h:E 31 [.aptr A 0 16 a 0,.aptr K 0 16 a 0,.aptr G 0 16 a 0] τ (wv (ps w u x)) τ)(he:ps w u x≠z){e:Bt}{ff1:FF}{σ1:Sto}(hnx:LpE a7 1 [(1,bool fw),(12,N n),(13,arr G 0 0 n 16),(15,arr K 0 0 n 16),(17,func F [] [.ref i 0]),(18,arr A 0 0 n 16),(19,arr C 0 0 n 16),(20,bool true),(61,N n),(62,N (a+1))] ((τ++[(wv (ps w u x)).cells]).set C [.arrv 0 16 (cs.set a (wv (ps w u x)))]) e ff1 σ1):LpE a7 1 [(1,bool fw),(12,N n),(13,arr G 0 0 n 16),(15,arr K 0 0 n 16),(17,func F [] [.ref i 0]),(18,arr A 0 0 n 16),(19,arr C 0 0 n 16),(20,bool m),(61,N n),(62,N a)] τ0 e ff1 σ1:=by
 have lps:=OB lw lu lx;exact ER [1,12,13,15,17,18,19,20,61,62] [sp 0 (Cm .i64 (show(a:Int) < (n:Int) by omega)),st 5 (WV (fs:=[]) (cs:=[.ref i 0]) (vs:=[N a]) hs hp rfl rfl hv.dis),sp 0 hv.len,sl 1 [1,12,13,15,17,18,19,20,21,61,62,67,68,69] L,sp 2 (DX (A:=A) (size:=16) ha),sp 2 (DX (A:=K) (size:=16) ha),sp 2 (DX (A:=G) (size:=16) ha),st 0 (oW h (by kernel_rfl) ⟨rfl,rfl,Fy⟩),st 1 (Zu (τ:=τ) (w:=ps w u x) lps),st 0 (QS (τ++[(wv (ps w u x)).cells]) (Vk lps Bp)),sp 2 (DX (A:=C) (size:=16) ha),st 0 (QS (τ++[(wv (ps w u x)).cells]) (rO (Hw hC) hz lz)),sp 0 (vY lps lz he),st 3 (QS (τ++[(wv (ps w u x)).cells]) (Vk lps Bp)),sp 0 (DX (A:=C) (size:=16) ha),st 0 (qK (Hw hC (p:=(wv (ps w u x)).cells)) hz lz lps),sp 1 (Di a 1 (by omega))] hnx
theorem Aj1(ha:¬a<n):LpE a7 1 [(1,bool fw),(12,N n),(13,arr G 0 0 n 16),(15,arr K 0 0 n 16),(17,func F [] [.ref i 0]),(18,arr A 0 0 n 16),(19,arr C 0 0 n 16),(20,bool m),(61,N n),(62,N a)] τ (.exit 2) [(1,bool fw),(12,N n),(13,arr G 0 0 n 16),(15,arr K 0 0 n 16),(17,func F [] [.ref i 0]),(18,arr A 0 0 n 16),(19,arr C 0 0 n 16),(20,bool m)] τ:=by
 exact DR [1,12,13,15,17,18,19,20] [sp 0 (CY .i64 (show ¬(a:Int) < (n:Int) by omega))]
theorem q7r(L:LpE a7 1 [(1,bool fw),(12,N n),(13,arr G 0 0 n 16),(15,arr K 0 0 n 16),(17,func F [] [.ref i 0]),(18,arr A 0 0 n 16),(19,arr C 0 0 n 16),(20,bool false),(61,N n),(62,N 0)] τ (.exit 2) [(1,bool fw),(12,N n),(13,arr G 0 0 n 16),(15,arr K 0 0 n 16),(17,func F [] [.ref i 0]),(18,arr A 0 0 n 16),(19,arr C 0 0 n 16),(20,bool m)] τ2){e:Bt}{ff1:FF}{σ1:Sto}(hnx:LpE a7 0 [(1,bool fw),(12,N n),(13,arr G 0 0 n 16),(15,arr K 0 0 n 16),(17,func F [] [.ref i 0]),(18,arr A 0 0 n 16),(19,arr C 0 0 n 16),(20,bool m)] τ2 e ff1 σ1):LpE a7 0 [(1,bool fw),(12,N n),(13,arr G 0 0 n 16),(15,arr K 0 0 n 16),(17,func F [] [.ref i 0]),(18,arr A 0 0 n 16),(19,arr C 0 0 n 16),(20,bool true)] τ e ff1 σ1:=by
 exact ER [1,12,13,15,17,18,19,20] [sl 5 [1,12,13,15,17,18,19,20,61,62] L] hnx
theorem q7x:LpE a7 0 [(1,bool fw),(12,N n),(13,arr G 0 0 n 16),(15,arr K 0 0 n 16),(17,func F [] [.ref i 0]),(18,arr A 0 0 n 16),(19,arr C 0 0 n 16),(20,bool false)] τ (.exit 0) [(1,bool fw),(18,arr A 0 0 n 16),(19,arr C 0 0 n 16)] τ:=by
 exact DR [1,18,19] []
theorem Aj2{ps:List Pt}{gl kl:List (List Int)}(hf:Cw f ps)(hg:Dk g gs gl)(hk:Dk k ks kl)(h26:E 26 [.agg [f]] (τ++[[f]]) (PV.arr B 0 0 ps.length 1) τ1)(hi:τ1[τ.length]?=some [f])(h27g:E 27 [g,N ps.length] (τ1++[[PV.arr B 0 0 ps.length 1]]) (.tuple [.arr G 0 0 ps.length 16,.bool true]) τ3)(h27k:E 27 [k,N ps.length] τ3 (.tuple [.arr K 0 0 ps.length 16,.bool true]) τ4)(ho:τ4[τ1.length]?=some [PV.arr B 0 0 ps.length 1]){X Y:Nat}{τ7 τ8 τ9:Sto}(h0:0<ps.length)(hn:ps.length≤Cb)(L:LpE a7 0 [(1,bool true),(12,N ps.length),(13,arr G 0 0 ps.length 16),(15,arr K 0 0 ps.length 16),(17,func 29 [] [.ref τ1.length 0]),(18,arr τ4.length 0 0 ps.length 16),(19,arr (τ4++[[PV.arrv 0 16 (List.replicate ps.length (wv zW))]]).length 0 0 ps.length 16),(20,bool true)] ((τ4++[[PV.arrv 0 16 (List.replicate ps.length (wv zW))]])++[[PV.arrv 0 16 (List.replicate ps.length (wv zW))]]) (.exit 0) [(1,bool true),(18,arr τ4.length 0 0 ps.length 16),(19,arr (τ4++[[PV.arrv 0 16 (List.replicate ps.length (wv zW))]]).length 0 0 ps.length 16)] τ7)(ha:E 32 [.arr τ4.length 0 0 ps.length 16] τ7 (.arr X 0 0 ps.length 1) τ8)(hb:E 32 [.arr (τ4++[[PV.arrv 0 16 (List.replicate ps.length (wv zW))]]).length 0 0 ps.length 16] τ8 (.arr Y 0 0 ps.length 1) τ9):E 7 [.agg [f],.bool true,g,k] τ (.tuple [.arr X 0 0 ps.length 1,.arr Y 0 0 ps.length 1,I 0]) τ9:=by
 exact rule R7 [st 0 (FN (τ:=τ) hf),st 3 (QS (τ++[[f]]) (E9 hf Bp)),st 0 (oW h26 (by kernel_rfl) ⟨by rcases hf with rfl | ⟨rfl,_⟩<;>rfl,rfl,rfl⟩),st 1 (qO (τ:=τ1) (r:=(PV.arr B 0 0 ps.length 1)) (.inr ⟨_,_,_,rfl⟩)),st 1 (QS (τ1++[[PV.arr B 0 0 ps.length 1]]) (Dj hf (Hw hi))),sp 0 (DF hf),sp 1 (EX hg),st 1 (oW h27g (by kernel_rfl) ⟨by simp only[AR,Bh,hg.dis];rfl,by simp only[Bi,Cg,hg.free];rfl,rfl⟩),sp 5 (EX hk),st 1 (oW h27k (by kernel_rfl) ⟨by simp only[AR,Bh,hk.dis];rfl,by simp only[Bi,Cg,hk.free];rfl,rfl⟩),st 5 (QS τ4 (rJ ho (.inr ⟨_,_,_,rfl⟩))),sp 1 (SY .i64 (show(ps.length:Int)≠0 by omega)),sp 16 (pV (z:=wv zW) (s:=16) hn ⟨rfl,rfl⟩),sp 1 (pV (z:=wv zW) (s:=16) hn ⟨rfl,rfl⟩),st 0 (ng (τ:=τ4) (n:=ps.length) (z:=wv zW) (s:=16)),st 0 (ng (τ:=(τ4++[[PV.arrv 0 16 (List.replicate ps.length (wv zW))]])) (n:=ps.length) (z:=wv zW) (s:=16)),sl 1 [1,12,13,15,17,18,19,20] L,st 3 (oW ha (by kernel_rfl) ⟨rfl,rfl,rfl⟩),st 1 (oW hb (by kernel_rfl) ⟨rfl,rfl,rfl⟩)]
theorem Aj3{ps:List Pt}{gl kl:List (List Int)}(hf:Cw f ps)(hg:Dk g gs gl)(hk:Dk k ks kl)(h26:E 26 [.agg [f]] (τ++[[f]]) (PV.arr B 0 0 ps.length 1) τ1)(hi:τ1[τ.length]?=some [f])(h27g:E 27 [g,N ps.length] (τ1++[[PV.arr B 0 0 ps.length 1]]) (.tuple [.arr G 0 0 ps.length 16,.bool true]) τ3)(h27k:E 27 [k,N ps.length] τ3 (.tuple [.arr K 0 0 ps.length 16,.bool true]) τ4)(ho:τ4[τ1.length]?=some [PV.arr B 0 0 ps.length 1]){X Y:Nat}{τ7 τ8 τ9:Sto}(h0:0<ps.length)(hn:ps.length≤Cb)(L:LpE a7 0 [(1,bool false),(12,N ps.length),(13,arr G 0 0 ps.length 16),(15,arr K 0 0 ps.length 16),(17,func 28 [] [.ref τ.length 0]),(18,arr τ4.length 0 0 ps.length 16),(19,arr (τ4++[[PV.arrv 0 16 (List.replicate ps.length (wv zW))]]).length 0 0 ps.length 16),(20,bool true)] ((τ4++[[PV.arrv 0 16 (List.replicate ps.length (wv zW))]])++[[PV.arrv 0 16 (List.replicate ps.length (wv zW))]]) (.exit 0) [(1,bool false),(18,arr τ4.length 0 0 ps.length 16),(19,arr (τ4++[[PV.arrv 0 16 (List.replicate ps.length (wv zW))]]).length 0 0 ps.length 16)] τ7)(ha:E 32 [.arr (τ4++[[PV.arrv 0 16 (List.replicate ps.length (wv zW))]]).length 0 0 ps.length 16] τ7 (.arr X 0 0 ps.length 1) τ8)(hb:E 32 [.arr τ4.length 0 0 ps.length 16] τ8 (.arr Y 0 0 ps.length 1) τ9):E 7 [.agg [f],.bool false,g,k] τ (.tuple [.arr X 0 0 ps.length 1,.arr Y 0 0 ps.length 1,I 0]) τ9:=by
 exact rule R7 [st 0 (FN (τ:=τ) hf),st 3 (QS (τ++[[f]]) (E9 hf Bp)),st 0 (oW h26 (by kernel_rfl) ⟨by rcases hf with rfl | ⟨rfl,_⟩<;>rfl,rfl,rfl⟩),st 1 (qO (τ:=τ1) (r:=(PV.arr B 0 0 ps.length 1)) (.inr ⟨_,_,_,rfl⟩)),st 1 (QS (τ1++[[PV.arr B 0 0 ps.length 1]]) (Dj hf (Hw hi))),sp 0 (DF hf),sp 1 (EX hg),st 1 (oW h27g (by kernel_rfl) ⟨by simp only[AR,Bh,hg.dis];rfl,by simp only[Bi,Cg,hg.free];rfl,rfl⟩),sp 5 (EX hk),st 1 (oW h27k (by kernel_rfl) ⟨by simp only[AR,Bh,hk.dis];rfl,by simp only[Bi,Cg,hk.free];rfl,rfl⟩),st 5 (QS τ4 (rJ ho (.inr ⟨_,_,_,rfl⟩))),sp 1 (SY .i64 (show(ps.length:Int)≠0 by omega)),sp 14 (pV (z:=wv zW) (s:=16) hn ⟨rfl,rfl⟩),sp 1 (pV (z:=wv zW) (s:=16) hn ⟨rfl,rfl⟩),st 0 (ng (τ:=τ4) (n:=ps.length) (z:=wv zW) (s:=16)),st 0 (ng (τ:=(τ4++[[PV.arrv 0 16 (List.replicate ps.length (wv zW))]])) (n:=ps.length) (z:=wv zW) (s:=16)),sl 1 [1,12,13,15,17,18,19,20] L,st 3 (oW ha (by kernel_rfl) ⟨rfl,rfl,rfl⟩),st 1 (oW hb (by kernel_rfl) ⟨rfl,rfl,rfl⟩)]
end Go.Abs.Z

namespace Go.Abs.Z
open Go.Proofs Go.RowKit
set_option linter.unusedVariables false
open Classical
def Lik(M:Nat)(a b:Sto):Prop:=∀id,id<M→b[id]?=a[id]?
def Sc(M:Nat)(τb:Sto)(F i n:Nat)(src:Nat→List Nat):Prop:=∀a,a<n→∃v,(src a).length<4000000000∧(∀τ,Lik M τb τ→E F [N a,.ref i 0] τ v τ)∧∀τ,Lik M τb τ→Rd τ v ((src a).map fun x:Nat=>(x:Int))
theorem dn{α:Type}{S:Nat→α}{i:Nat}:CG S i (S i)=S:=by
 funext j;unfold CG;split
 ·rename_i h;rw[h]
 ·rfl
theorem dw{α:Type}{S:Nat→α}{i:Nat}{x y:α}:CG (CG S i x) i y=CG S i y:=by
 funext j;unfold CG;split<;>rfl
theorem aD{α:Type}{S:Nat→α}{i:Nat}{x:α}:CG S i x i=x:=by unfold CG;rw[if_pos rfl]
section
variable{fw m0:Bool}{A C G K F i n M:Nat}{τb:Sto}{y:Sy}
structure C7(A C G K F i n M:Nat)(τb:Sto)(y:Sy):Prop where
 yn:y.n=n
 nl:n≤1024
 ac:A≠C
 am:M≤A
 cm:M≤C
 g:AW τb G n y.gn
 k:AW τb K n y.kl
 gm:G<M
 km:K<M
 sc:Sc M τb F i n y.src
 pf:pur F=false
structure X7(A C n M:Nat)(τb τ:Sto)(S T:Nat→W):Prop where
 a:AW τ A n S
 c:AW τ C n T
 l:Lik M τb τ
theorem X7.aw{S T U:Nat→W}{τ:Sto}{G:Nat}(h:X7 A C n M τb τ S T)(hg:AW τb G n U)(hm:G<M):AW τ G n U:=by
 unfold AW;rw[h.l G hm];exact hg
abbrev fP(fw m:Bool)(A C G K F i n:Nat):FF:=[(1,some (.bool fw)),(12,some (N n)),(13,some (.arr G 0 0 n 16)),(15,some (.arr K 0 0 n 16)),(17,some (.func F [] [.ref i 0])),(18,some (.arr A 0 0 n 16)),(19,some (.arr C 0 0 n 16)),(20,some (.bool m))]
theorem jW(h7:C7 A C G K F i n M τb y){a:Nat}(ha:a<n){v:PV}(hl:(y.src a).length<4000000000)(hv:∀τ,Lik M τb τ→Rd τ v ((y.src a).map fun x:Nat=>(x:Int))):∀(m c:Nat) (τ:Sto) (S T:Nat→W),m=(y.src a).length - c→c≤(y.src a).length→X7 A C n M τb τ S T→(∀i,(S i).length=16)→(∀i,(T i).length=16)→
  ∃τ',X7 A C n M τb τ' (CG S a (((y.src a).drop c).foldl (fun w j=>jn w (T j)) (S a))) T∧
   LpE a7 2 (fP fw m0 A C G K F i n++[(21,some (N a)),(61,some (N n)),(62,some (N a)),(67,some v),(68,some (N ((y.src a).map fun x:Nat=>(x:Int)).length)),(69,some (N c))]) τ (.exit 4) (fP fw m0 A C G K F i n++[(21,some (N a)),(61,some (N n)),(62,some (N a))]) τ'
 |0,c,τ,S,T,hm,hc,hx,hS,hT=>by
  rw[Dw (by omega)]
  refine⟨τ,?_,Aj0 (l:=(y.src a).map fun x:Nat=>(x:Int)) (by rw[Am];omega)⟩
  show X7 A C n M τb τ (CG S a (S a)) T;rw[dn];exact hx
 |m+1,c,τ,S,T,hm,hc,hx,hS,hT=>by
  have hcl:c<(y.src a).length:=by omega
  have hxn:(y.src a)[c] < n:=by
   have:=y.hsrc a _ (by rw[h7.yn];exact ha) (AQ hcl)
   rw[h7.yn] at this;exact this
  have hrd:=hv τ hx.l;obtain⟨q,ip,lp⟩:=hrd.idx c ((y.src a)[c]:Int) (by rw[Af,Ad hcl];rfl)
  have h30:=e30 hx.a (FZ ha) (hS a) hx.c (FZ hxn) (hT _) h7.ac
  have hx2:X7 A C n M τb (τ.set A [.arrv 0 16 (((List.range n).map fun i=>wv (S i)).set a (wv (jn (S a) (T (y.src a)[c]))))]) (CG S a (jn (S a) (T (y.src a)[c]))) T:=
   ⟨hx.a.set a _,hx.c.other h7.ac,fun id hid=>by rw[Ap (by have:=h7.am;omega)];exact hx.l id hid⟩
  obtain⟨τ',h1,h2⟩:=jW h7 ha hl hv m (c+1) _ _ T (by omega) (by omega) hx2 (fun j=>by
   unfold CG;split
   ·exact YT (hS a) (hT _)
   ·exact hS j) hT
  rw[dw,aD] at h1;refine⟨τ',?_,q7c hrd (by rw[Am];exact hcl) (by rw[Am];exact hl) ip lp ha hxn h30 h2⟩
  rw[BB hcl,Cn];exact h1
theorem YN(h7:C7 A C G K F i n M τb y):∀(m a:Nat) (τ:Sto) (s:St),m=n - a→a≤n→X7 A C n M τb τ s.S s.T→Gud y s.S s.T→
  ∃τ',X7 A C n M τb τ' ((List.range' a m).foldl y.step s).S ((List.range' a m).foldl y.step s).T∧
   LpE a7 1 (fP fw s.c A C G K F i n++[(61,some (N n)),(62,some (N a))]) τ (.exit 2) (fP fw ((List.range' a m).foldl y.step s).c A C G K F i n) τ'
 |0,a,τ,s,hm,ha,hx,hg=>⟨τ,hx,Aj1 (by omega)⟩
 |m+1,a,τ,s,hm,ha,hx,hg=>by
  have han:a<n:=by omega
  have hny:a<y.n:=by rw[h7.yn];exact han
  have hnl:=h7.nl;obtain⟨v,hl,hE,hR⟩:=h7.sc a han;obtain⟨τ1,h1,h2⟩:=jW (fw:=fw) (m0:=s.c) h7 han hl hR (y.src a).length 0 τ s.S s.T (by omega) (by omega) hx hg.s16 hg.t16
  rw[CS] at h1;change X7 A C n M τb τ1 (CG s.S a (y.inn s.S s.T a)) s.T at h1;have lw:(y.inn s.S s.T a).length=16:=hg.NU a;have hA1:=h1.a
  have hAg:((List.range n).map fun i=>wv (CG s.S a (y.inn s.S s.T a) i))[a]?=some (wv (y.inn s.S s.T a)):=by
   rw[FZ (S:=CG s.S a (y.inn s.S s.T a)) han,aD]
  have hK1:=h1.aw h7.k h7.km;have hG1:=h1.aw h7.g h7.gm;have h31:=e31 hA1 hAg lw hK1 (FZ han) (y.hkl a) hG1 (FZ han) (y.hgn a);have hgs:=hg.step hny;rw[Eo,Cn];by_cases he:ps (y.inn s.S s.T a) (y.kl a) (y.gn a)=s.T a
  ·have e:y.step s a=⟨CG s.S a (y.inn s.S s.T a),s.T,s.c⟩:=by unfold Sy.step;exact if_pos he
   have hx2:X7 A C n M τb (τ1++[(wv (ps (y.inn s.S s.T a) (y.kl a) (y.gn a))).cells]) (y.step s a).S (y.step s a).T:=by
    rw[e]
    exact⟨h1.a.old Old.push,h1.c.old Old.push,fun id hid=>by
     have:=(Ab.1 h1.a).1;have:=h7.am;rw[Ae (by omega)];exact h1.l id hid⟩
   obtain⟨τ',h3,h4⟩:=YN h7 m (a+1) _ _ (by omega) (by omega) hx2 hgs
   refine⟨τ',h3,?_⟩
   have hc:(y.step s a).c=s.c:=by rw[e]
   rw[hc] at h4;exact q7s hA1 hAg lw hK1 (FZ han) (y.hkl a) hG1 (FZ han) (y.hgn a) h1.c (FZ han) (hg.t16 a) h7.pf (hR τ hx.l) han (by omega) (hE τ hx.l) h2 h31 he h4
  ·have e:y.step s a=⟨CG s.S a (y.inn s.S s.T a),CG s.T a (ps (y.inn s.S s.T a) (y.kl a) (y.gn a)),true⟩:=by unfold Sy.step;exact if_neg he
   have hx2:X7 A C n M τb ((τ1++[(wv (ps (y.inn s.S s.T a) (y.kl a) (y.gn a))).cells]).set C [.arrv 0 16 (((List.range n).map fun i=>wv (s.T i)).set a (wv (ps (y.inn s.S s.T a) (y.kl a) (y.gn a))))]) (y.step s a).S (y.step s a).T:=by
    rw[e]
    exact⟨(h1.a.old Old.push).other (Ne.symm h7.ac),(h1.c.old Old.push).set a _,fun id hid=>by
     have:=(Ab.1 h1.a).1;have:=h7.am;have:=h7.cm;rw[Ap (by omega),Ae (by omega)];exact h1.l id hid⟩
   obtain⟨τ',h3,h4⟩:=YN h7 m (a+1) _ _ (by omega) (by omega) hx2 hgs
   refine⟨τ',h3,?_⟩
   have hc:(y.step s a).c=true:=by rw[e]
   rw[hc] at h4;exact q7d hA1 hAg lw hK1 (FZ han) (y.hkl a) hG1 (FZ han) (y.hgn a) h1.c (FZ han) (hg.t16 a) h7.pf (hR τ hx.l) han (by omega) (hE τ hx.l) h2 h31 he h4
theorem xD(h7:C7 A C G K F i n M τb y):∀(m:Nat) (τ:Sto) (S T:Nat→W),m=1024 * y.n - tot T y.n→X7 A C n M τb τ S T→Gud y S T→
  ∃τ' S' T',X7 A C n M τb τ' S' T'∧Gud y S' T'∧(∀i v,i<y.n→v<1024→(bit (S' i) v=true↔y.In i v))∧(∀i v,i<y.n→v<1024→(bit (T' i) v=true↔y.R i v))∧
   LpE a7 0 (fP fw true A C G K F i n) τ (.exit 0) [(1,some (.bool fw)),(18,some (.arr A 0 0 n 16)),(19,some (.arr C 0 0 n 16))] τ':=by
 intro m
 induction m using Nat.strongRecOn with
 |_ m ih=>
  intro τ S T hm hx hg;obtain⟨τ1,h1,h2⟩:=YN (fw:=fw) h7 n 0 τ ⟨S,T,false⟩ (by omega) (by omega) hx hg
  have e:(List.range' 0 n).foldl y.step ⟨S,T,false⟩=y.rnd S T:=by
   unfold Sy.rnd;rw[h7.yn,DU]
  rw[e] at h1 h2;cases hcc:(y.rnd S T).c with
  |false=>
   obtain⟨h3,h4⟩:=hg.still hcc;rw[hcc] at h2;exact⟨τ1,_,_,h1,hg.rnd,h3,h4,q7r h2 q7x⟩
  |true=>
   rw[hcc] at h2;have ht:=pq hg hcc;have hle:=sK (y.rnd S T).T y.n;obtain⟨τ2,S',T',h3,h4,h5,h6,h8⟩:=ih (1024 * y.n - tot (y.rnd S T).T y.n) (by omega) τ1 _ _ rfl h1 hg.rnd
   exact⟨τ2,S',T',h3,h4,h5,h6,q7r h2 h8⟩
end
end Go.Abs.Z

namespace Go.Abs.Z
open Go.Proofs Go.RowKit
set_option linter.unusedVariables false
set_option linter.unusedSimpArgs false
end Go.Abs.Z

namespace Go.Abs.Z
open Go.Proofs Go.RowKit
set_option linter.unusedVariables false
open Classical
structure IO(τ:Sto)(A n:Nat)(is:List PV)(S:Nat→List Int):Prop where
 at_:τ[A]?=some [.arrv 0 1 is]
 len:is.length=n
 ls:∀i w,is[i]?=some w→Ls w (S i)
theorem IO.get{τ:Sto}{A n:Nat}{is:List PV}{S:Nat→List Int}(h:IO τ A n is S){a:Nat}(ha:a<n):∃w,is[a]?=some w∧Ls w (S a):=
 ⟨_,Ad (by rw[h.len];exact ha),h.ls a _ (Ad (by rw[h.len];exact ha))⟩
theorem IO.set{τ:Sto}{A n:Nat}{is:List PV}{S:Nat→List Int}(h:IO τ A n is S)(a:Nat){r:PV}{q:List Int}(hr:Ls r q):IO (τ.set A [.arrv 0 1 (is.set a r)]) A n (is.set a r) (CG S a q):=by
 refine⟨AP (Ab.1 h.at_).1,by rw[Bo];exact h.len,fun i w hw=>?_⟩
 unfold CG;rw[BO] at hw;by_cases hai:a=i
 ·subst hai;rw[if_pos rfl] at hw ⊢
  split at hw
  ·cases hw;exact hr
  ·cases hw
 ·rw[if_neg hai] at hw;rw[if_neg (fun e=>hai e.symm)]
  exact h.ls i w hw
structure Cx8(fw:Bool)(A B n i:Nat)(f g k:PV)(ps:List Pt)(gs ks:List PV)(gl kl:List (List Int)):Prop where
 hf:Cw f ps
 hg:Dk g gs gl
 hk:Dk k ks kl
 hn:n=ps.length
 gn:gl.length=n
 kn:kl.length=n
 ab:A≠B
 ia:i≠A
 ib:i≠B
 gset:Dg gl
 kset:Dg kl
 vld:Fj ps
def nxN(ps:List Pt)(a:Nat):List Nat:=((ps[a]?).map fun p=>p.nx.map Int.toNat).getD []
def Vz(fw:Bool)(ps:List Pt)(a:Nat):List (Nat×Nat):=(nxN ps a).map fun b=>if fw then(b,a) else(a,b)
def K5(fw:Bool)(ps:List Pt):List (Nat×Nat):=(List.range ps.length).flatMap (Vz fw ps)
theorem Mq{ps:List Pt}{a:Nat}{p:Pt}(hp:ps[a]?=some p):nxN ps a=p.nx.map Int.toNat:=by unfold nxN;rw[hp];rfl
theorem TR{fw:Bool}{ps:List Pt}(hv:Fj ps){e:Nat×Nat}(he:e∈K5 fw ps):e.1<ps.length∧e.2<ps.length:=by
 obtain⟨a,ha,hb⟩:=CE.1 he;have ha:=Bg.1 ha;obtain⟨b,hb2,rfl⟩:=Ce.1 hb;have hp:=Ad ha;rw[Mq hp] at hb2;obtain⟨x,hx,rfl⟩:=Ce.1 hb2;have:=hv.to _ (AQ ha) x hx;cases fw<;>simp<;>omega
section
variable{fw:Bool}{A B n i:Nat}{f g k:PV}{ps:List Pt}{gs ks:List PV}{gl kl:List (List Int)}{τ0 τ:Sto}
structure XS(τ0:Sto)(fw:Bool)(τ:Sto)(A B n i:Nat)(f:PV)(S T:Nat→List Int):Prop where
 a:∃is,IO τ A n is (if fw then S else T)
 b:∃os,IO τ B n os (if fw then T else S)
 f:τ[i]?=some [f]
 old:∀id,id≠A→id≠B→τ[id]?=τ0[id]?
end
end Go.Abs.Z

namespace Go.Abs.Z
open Go.Proofs Go.RowKit
set_option linter.unusedVariables false
open Classical
section
variable{fw:Bool}{A B n i:Nat}{f g k:PV}{ps:List Pt}{gs ks:List PV}{gl kl:List (List Int)}{τ0 τ:Sto}
end
theorem IO.rdd{τ:Sto}{A n:Nat}{is:List PV}{S:Nat→List Int}(h:IO τ A n is S):Rdd τ (.arr A 0 0 n 1) ((List.range n).map S):=by
 refine⟨rfl,rfl,by rw[Am,CO];rfl,fun j l hl=>?_⟩
 rw[Af] at hl;obtain⟨j',hj,rfl⟩:=Ac.1 hl;have hjn:j<n:=by have:=(Ab.1 hj).1;simpa using this
 rw[Ck hjn] at hj;cases hj;obtain⟨w,hw,hls⟩:=h.get hjn;exact⟨_,w,DX hjn,kQ h.at_ hw hls,hls.rd⟩
end Go.Abs.Z

namespace Go.Abs.Z
noncomputable section
open Go.Proofs Go.RowKit
set_option linter.unusedVariables false
open Classical
def ML(fw:Bool)(ps:List Pt)(a:Nat):List Nat:=if fw then(Nn ps (List.range ps.length) (fun _=>[]) a).map Int.toNat else nxN ps a
theorem Zw{fw:Bool}{ps:List Pt}{i j:Nat}(hi:i<ps.length):j∈ML fw ps i↔(if fw then j<ps.length∧i∈nxN ps j else j∈nxN ps i):=by
 unfold ML;cases fw with
 |false=>rfl
 |true=>
  simp only[if_true,Ce];constructor
  ·rintro⟨y,hy,rfl⟩
   rcases(NP _ _).1 hy with h | ⟨a,ha,rfl,x,hx,hxi⟩
   ·cases h
   ·have ha:=Bg.1 ha;refine⟨by simpa using ha,?_⟩
    unfold nxN;rw[Bz];have hp:=Ad ha;rw[hp] at hx ⊢;exact Ce.2 ⟨x,hx,hxi⟩
  ·rintro⟨hj,h⟩
   refine⟨(j:Int),(NP _ _).2 (.inr ⟨j,Bg.2 hj,rfl,?_⟩),Bz j⟩
   unfold nxN at h;have hp:=Ad hj;rw[hp] at h ⊢;obtain⟨x,hx,he⟩:=Ce.1 h;exact⟨x,hx,he⟩
theorem V6{fw:Bool}{ps:List Pt}(hv:Fj ps){i j:Nat}:(i,j)∈K5 fw ps↔i<ps.length∧j∈ML fw ps i:=by
 constructor
 ·intro h;have hm:=TR hv h;refine⟨hm.1,(Zw hm.1).2 ?_⟩
  obtain⟨a,ha,hb⟩:=CE.1 h;obtain⟨b,hb2,he⟩:=Ce.1 hb;cases fw<;>simp only[if_true,Bool.false_eq_true,if_false,Prod.mk.injEq] at he ⊢<;>obtain⟨rfl,rfl⟩:=he
  ·exact hb2
  ·exact⟨hm.2,hb2⟩
 ·rintro⟨hi,h⟩
  rw[Zw hi] at h;cases fw with
  |true=>
   simp only[if_true] at h;exact CE.2 ⟨j,Bg.2 h.1,Ce.2 ⟨i,h.2,rfl⟩⟩
  |false=>
   simp only[Bool.false_eq_true,if_false] at h;exact CE.2 ⟨i,Bg.2 hi,Ce.2 ⟨j,h,rfl⟩⟩
def Tn(ls:List (List Int))(n:Nat):Nat→W:=fun i=>if i<n then ofL (ls.getD i []) else zW
theorem QL{ls:List (List Int)}{n:Nat}(h:Dg ls)(hn:ls.length=n)(i:Nat):(Tn ls n i).length=16:=by
 unfold Tn;split
 ·refine Ql (h _ ?_).2
  rw[Ip (by omega)];exact AQ _
 ·exact Hz
def sy7(fw:Bool)(ps:List Pt)(gl kl:List (List Int))(hv:Fj ps)(hg:Dg gl∧gl.length=ps.length)(hk:Dg kl∧kl.length=ps.length):Sy where
 n:=ps.length
 src:=ML fw ps
 gn:=Tn gl ps.length
 kl:=Tn kl ps.length
 hsrc:=fun i j hi hj=>(TR hv ((V6 hv).2 ⟨hi,hj⟩:(i,j)∈K5 fw ps)).2
 hgn:=QL hg.1 hg.2
 hkl:=QL hk.1 hk.2
section
variable{τ:Sto}{f g k:PV}{ps:List Pt}{gs ks:List PV}{gl kl:List (List Int)}{fw:Bool}
theorem pR{p:Pt}{ps:List Pt}(hv:Fj ps)(hp:p∈ps):(p.nx.map Int.toNat).map (fun x:Nat=>(x:Int))=p.nx:=by
 rw[List.map_map]
 conv=>rhs;rw[←List.map_id p.nx]
 refine D5 fun x hx=>?_
 have:=hv.to p hp x hx;show((x.toNat:Nat):Int)=x;omega
theorem AzU(hf:Cw f ps)(hv:Fj ps)(hps:∀p∈ps,p.nx.length<4000000000){M i:Nat}{τb:Sto}(hi:τb[i]?=some [f])(hM:i<M):Sc M τb 28 i ps.length (ML false ps):=fun a ha=>by
 have hp:=Ad ha;have e:ML false ps a=ps[a].nx.map Int.toNat:=Mq hp;refine⟨ps[a].v,by rw[e,Am];exact hps _ (AQ ha),fun τ hl=>q28 hf (by rw[hl i hM];exact hi) hp,fun τ _=>?_⟩
 rw[e,pR hv (AQ ha)];exact ps[a].ok.rd
theorem AzT{τ0 τb:Sto}{B M i:Nat}{es:List PV}{ids:Nat→Nat}(hb:Bf τ0 τb B ps.length (Nn ps (List.range ps.length) fun _=>[]) es ids)(hs:Sht (Nn ps (List.range ps.length) fun _=>[]) ps.length)(hv:Fj ps)(hi:τb[i]?=some [.arr B 0 0 ps.length 1])(hM:i<M)(hBM:B<M)(hid:∀x,x<ps.length→Nn ps (List.range ps.length) (fun _=>[]) x≠[]→ids x<M):Sc M τb 29 i ps.length (ML true ps):=fun a ha=>by
 obtain⟨L,hL⟩:∃L,Nn ps (List.range ps.length) (fun _=>[]) a=L:=⟨_,rfl⟩
 have e:ML true ps a=L.map Int.toNat:=by unfold ML;rw[if_pos rfl,hL]
 have ec:(L.map Int.toNat).map (fun x:Nat=>(x:Int))=L:=by
  rw[List.map_map]
  conv=>rhs;rw[←List.map_id L]
  refine D5 fun x hx=>?_
  rw[←hL] at hx;rcases(NP _ _).1 hx with h | ⟨b,_,rfl,_⟩
  ·cases h
  ·show((((b:Int)).toNat:Nat):Int)=_;rw[Bz];rfl
 have hlen:L.length<4000000000:=by
  have:=hv.most;rcases hs a with h | ⟨h,_⟩<;>rw[hL] at h<;>omega
 have hel:=hb.el a ha;rw[hL] at hel;have hid2:=hid a ha;rw[hL] at hid2;have hB:∀τ,Lik M τb τ→τ[B]?=some [.arrv 0 1 es]:=fun τ hl=>by rw[hl B hBM];exact hb.at_
 rw[e,ec,Am];rcases hel with⟨h1,h2⟩ | ⟨h1,h2,h3,h4,h5⟩
 ·refine⟨.nils,hlen,fun τ hl=>q29 ha (by rw[hl i hM];exact hi) (hB τ hl) h2 (.inl rfl),fun τ hl=>?_⟩
  rw[h1];exact(show L6 τ .nils [] from .inl ⟨rfl,rfl⟩).rd
 ·refine⟨_,hlen,fun τ hl=>q29 ha (by rw[hl i hM];exact hi) (hB τ hl) h4 (.inr ⟨_,_,_,rfl⟩),fun τ hl=>?_⟩
  exact L6.rd (.inr ⟨ids a,rfl,by rw[hl _ (hid2 h1)];exact h5⟩)
end
end
end Go.Abs.Z

namespace Go.Proofs
open Go.Shelf
def Tryz.Vl:Go.Shelf.Ren:=⟨fun | 20=>17 | n=>n,fun | 22=>36 | 3=>3 | 4=>4 | 0=>0 | n=>n,fun | n=>n⟩
theorem Tryz.Xl:Go.Proofs.Lays2.n20 Tryz.prog Tryz.Vl:={
 mixed:=by kernel_rfl
 f20:=Tryz.func17.trans (congrArg some (by kernel_rfl))
 t0:=Tryz.underlying0
 a0:=Tryz.isAgg0
 z0:=Tryz.sizeOf0
 v0:=Tryz.zeroValue0
 t3:=Tryz.underlying3
 a3:=Tryz.isAgg3
 z3:=Tryz.sizeOf3
 v3:=Tryz.zeroValue3
 t4:=Tryz.underlying4
 a4:=Tryz.isAgg4
 z4:=Tryz.sizeOf4
 v4:=Tryz.zeroValue4
 t22:=Tryz.underlying36
 a22:=Tryz.isAgg36
 z22:=Tryz.sizeOf36
 v22:=Tryz.zeroValue36
 i3:=by kernel_rfl }
end Go.Proofs

namespace Go.Abs.Z
open Go.Proofs Go.RowKit Go.Lib Go.Sort
set_option linter.unusedVariables false
def cpA(zs:List Int):List Int:=compact zs++List.replicate (zs.length - (compact zs).length) 0
theorem rW(zs:List Int):(compact zs).length≤zs.length:=by
 unfold compact compactUpTo;rw[Am];exact BM (Ez _ _) (by simp)
def JU:GM:=fun _ xs σ=>match xs with
 |[.nils]=>some (.nils,σ)
 |[.arr id gen off len size]=>if size=1 then match σ[id]? with
  |some cs=>match Dq cs gen 1 with
   |some es=>match OP ((es.drop off).take len) with
    |some zs=>if zs.length=len∧0<len∧len<9000000000 then some (.arr id gen off (compact zs).length 1,σ.set id [.arrv gen 1 (es.take off++(cpA zs).map (PV.int .i64)++es.drop (off+len))]) else none
    |none=>none
   |none=>none
  |none=>none
  else none
 |_=>none
theorem Az3:He Tryz.prog 17:=⟨Tryz.f17,Tryz.func17,by kernel_rfl,by kernel_rfl⟩
theorem Za:FQ Tryz.prog 17 JU:=by
 intro call hSc args σ r σ' hown h;refine⟨Az3,fun n vs w G K hargs hpre=>callsIn_wide.2 ?_⟩
 unfold JU at h
 split at h
 ·cases h;obtain⟨v,rfl,hv⟩:=JS hargs
  have hv':v=.slice none 0 0:=by
   cases hv with
   |one h=>
    rcases h with h | h
    ·cases h;rfl
    ·cases h
  subst hv';exact(Any.slices_Compact_int_empty Tryz.Xl none 0 w:Calls Tryz.prog 17 _ w _).mono fun e w' ⟨h1,h2⟩=>⟨_,G,h1,by rw[h2];exact hv,by rw[h2];exact Og hpre⟩
 ·rename_i id gen off len size
  split at h
  case isFalse=>cases h
  rename_i hs1;subst hs1
  split at h
  case h_2=>cases h
  rename_i cs0 hσ
  split at h
  case h_2=>cases h
  rename_i es hes
  split at h
  case h_2=>cases h
  rename_i zs hzs
  split at h
  case isFalse=>cases h
  rename_i hzl;cases h;obtain⟨hzl,h0,hbig⟩:=hzl;have hcs0:=Jm hes;subst hcs0;have hA:=ZU hpre hσ;obtain⟨v,rfl,hv⟩:=JS hargs;obtain⟨b,base,m,cap,b',o',hab,hcap,hcm,hat,rfl⟩:=hv.Gp;obtain⟨b1,base1,m1,cs,elem,g1,g2,g3,g4,g5,g6,g7,g8,g9⟩:=hA;rw[hab] at g1;cases g1;have hz:=Mt hzs
  have hlen:off+len≤es.length:=by
   have:=congrArg List.length hz;simp[hzl] at this;omega
  obtain⟨rfl,rfl⟩:=hat (by omega)
  have hlt:b' < w.heap.size:=(hpre.own _ _ g3).1;have hH:=Ua hz hzl hlen g5 (by rw[g6];exact g8) g9
  have hle:=rW zs;refine(Any.slices_Compact_int Tryz.Xl b' (base+off) cap zs w hH (by omega) (by omega):Calls Tryz.prog 17 _ w _).mono ?_ |> fun h=>by rw[←hzl,Dv];exact h
  rintro e w' ⟨rfl,k,rfl⟩
  refine⟨_,G,rfl,.one (.inr ?_),aS hpre hσ hab g2 g3 g4 g5 g6 g7 g8 g9 (by rw[hzl];exact hlen) (ys:=cpA zs) (by simp[cpA];omega) (fun c hc hne=>?_) ?_ (by simp[putRow,mapBlock]) ⟨rfl,rfl,rfl⟩⟩
  ·have:=@F6.arr G.bl id gen off (compact zs).length 1 b' base m cap b' (base+off * 1) hab (by omega) hcm (fun _=>⟨rfl,rfl⟩)
   rw[Dv] at this;exact this
  ·simp only[putRow,mapBlock,Ch,Ne.symm hne,if_false];rfl
  ·simp only[putRow,mapBlock,Ch,if_true,heap_ahead,g5,Ay,onCells];rfl
 ·cases h
theorem Hu{zs:List Int}{j:Nat}(h:j<zs.length):zs.toArray[j]! = zs[j]:=by
 rw[getElem!_pos _ _ (by simpa using h)];rfl
theorem vC{zs:List Int}(hs:zs.Pairwise (·≤·))(x:Int):x∈compact zs↔x∈zs:=by
 unfold compact compactUpTo;simp only[Ce,DI,Bg];constructor
 ·rintro⟨j,⟨hj,_⟩,rfl⟩
  rw[Hu hj];exact AQ _
 ·intro hx
  have key:∀j,(hj:j<zs.length)→zs[j]=x→∃i,(i<zs.length∧keeps zs.toArray i=true)∧zs.toArray[i]! = x:=by
   intro j
   induction j with
   |zero=>intro hj e;exact⟨0,⟨hj,by simp[keeps]⟩,by rw[Hu hj];exact e⟩
   |succ j ih=>
    intro hj e;by_cases he:zs[j]'(by omega)=x
    ·exact ih (by omega) he
    ·refine⟨j+1,⟨hj,?_⟩,by rw[Hu hj];exact e⟩
     unfold keeps;refine decide_eq_true (.inr ?_)
     rw[Hu hj,Nat.add_sub_cancel,Hu (by omega),e]
     exact fun h=>he h.symm
  obtain⟨j,hj,e⟩:=List.getElem_of_mem hx;exact key j hj e
theorem vB{zs:List Int}(hs:zs.Pairwise (·≤·)):(compact zs).Pairwise (· < ·):=by
 unfold compact compactUpTo;rw[List.pairwise_map];have hr:(List.range zs.length).Pairwise (· < ·):=List.pairwise_lt_range;refine((hr.filter _).imp_of_mem ?_)
 intro a b ha hb hab;obtain⟨ha,_⟩:=DI.1 ha;obtain⟨hb,hk⟩:=DI.1 hb;have ha:=Bg.1 ha;have hb:=Bg.1 hb;rw[Hu ha,Hu hb];have hk:=of_decide_eq_true hk;rcases hk with h | h
 ·omega
 ·rw[Hu hb,Hu (by omega)] at h
  have h1:zs[a]≤zs[b - 1]'(by omega):=by
   by_cases e:a=b - 1
   ·subst e;exact Int.le_refl _
   ·exact Ec.1 hs a (b - 1) ha (by omega) (by omega)
  have h2:zs[b - 1]'(by omega)≤zs[b]:=Ec.1 hs (b - 1) b (by omega) hb (by omega)
  omega
end Go.Abs.Z

namespace Go.Abs.Z
noncomputable section
open Go.Proofs Go.RowKit
set_option linter.unusedVariables false
def Iso(f:FuncId)(args:List PV)(r:PV):Prop:=∃r0 σ0,E f args [] r0 σ0∧SA 3 σ0 r0=some r
theorem Iso.det{f:FuncId}{args:List PV}{r r':PV}(h:Iso f args r)(h':Iso f args r'):r=r':=by
 obtain⟨r0,s0,h1,h2⟩:=h;obtain⟨r1,s1,h3,h4⟩:=h';obtain⟨rfl,rfl⟩:=vo h1 h3;rw[h2] at h4;exact Option.some.inj h4
open Classical in
def NT(f:FuncId):GM:=fun _ args σ=>if h:args.all PV.flat=true∧∃r,Iso f args r then some (h.2.choose,σ) else none
theorem qd(f:FuncId):FQ Tryz.prog f (NT f):=by
 intro call hS args σ r σ' hown h;unfold NT at h
 split at h
 ·rename_i hh;cases h;obtain⟨r0,s0,⟨n,hn⟩,h2⟩:=hh.2.choose_spec;exact(bn n f args [] r0 s0 hown (hn n (Be _))).iso hh.1 h2 σ
 ·cases h
theorem qf{f:FuncId}{args:List PV}{r:PV}(h:Iso f args r)(hf:args.all PV.flat=true)(call:Caller)(σ:Sto):NT f call args σ=some (r,σ):=by
 unfold NT;rw[dif_pos ⟨hf,r,h⟩];congr 2;exact Iso.det (Exists.choose_spec (⟨r,h⟩:∃r,Iso f args r)) h
def QX:List (FuncId×GM):=[(15,KY),(17,JU),(5,NT 5),(6,NT 6),(7,NT 7),(9,NT 9),(10,NT 10),(11,NT 11),(12,NT 12),(14,NT 14),(18,NT 18)]
theorem iR:∀x∈QX,FQ Tryz.prog x.1 x.2:=by
 intro x hx;simp only[QX,Av,AB,or_false] at hx;rcases hx with rfl | rfl | rfl | rfl | rfl | rfl | rfl | rfl | rfl | rfl | rfl
 ·exact Qd
 ·exact Za
 all_goals exact qd _
def IR(n:Nat):Caller:=LW pur (MP QX) tab n
theorem Ym(n:Nat):EW Tryz.prog (IR n):=Ha mixed VW (LB _ iR) n
abbrev EQ:=Ev IR
abbrev LQ:=IL pur IR
def RQ(f:FuncId)(af:Cy):Prop:=∀n args σ,IR (n+1) f args σ=GD pur (IR n) n af args σ
theorem eqI{f:FuncId}{args:List PV}{r:PV}(hp:MP QX f=some (NT f))(h:Iso f args r)(hf:args.all PV.flat=true)(σ:Sto):EQ f args σ r σ:=by
 refine⟨1,fun n hn=>?_⟩
 obtain⟨n,rfl⟩:∃m,n=m+1:=⟨n - 1,by omega⟩
 show Option.rec (motive:=fun _=>Option (PV×Sto)) (Option.rec (motive:=fun _=>Option (PV×Sto)) none (fun fn=>GD pur (IR n) n fn args σ) (tab f)) (fun g=>g (IR n) args σ) (MP QX f)=_
 rw[hp];exact qf h hf _ σ
theorem eqP{f:FuncId}{g:GM}{args:List PV}{r:PV}{σ σ':Sto}(hp:MP QX f=some g)(h:∀c,g c args σ=some (r,σ')):EQ f args σ r σ':=by
 refine⟨1,fun n hn=>?_⟩
 obtain⟨n,rfl⟩:∃m,n=m+1:=⟨n - 1,by omega⟩
 show Option.rec (motive:=fun _=>Option (PV×Sto)) (Option.rec (motive:=fun _=>Option (PV×Sto)) none (fun fn=>GD pur (IR n) n fn args σ) (tab f)) (fun g=>g (IR n) args σ) (MP QX f)=_
 rw[hp];exact h _
theorem TG{f:FuncId}{af:Cy}{args:List PV}{σ σ':Sto}{r:PV}(hR:RQ f af)(l:List Stp)(h:runT pur IR af args σ (MZ l)=some (r,σ',qOf l True)):EQ f args σ r σ':=aF (fun n=>hR n args σ) (Li l trivial) h
theorem Yt{keep:List Bool}{c:Dc}{ff ffn ff':FF}{σ σn σ':Sto}{e:Bt}(ls:List Nat)(l:List Stp)(hl:LQ keep c ffn σn e ff' σ')(h:ZX pur IR keep c ls ff σ (MZ l)=some (ffn,σn,qOf l True)):LQ keep c ff σ e ff' σ':=TS (Li l trivial) hl h
theorem Yr{keep:List Bool}{c:Dc}{ff ff':FF}{σ σ':Sto}{e:Bt}(ls:List Nat)(l:List Stp)(h:Vj pur IR c ls ff σ (MZ l)=some (e,ff',σ',qOf l True)):LQ keep c ff σ e ff' σ':=Ro (Li l trivial) h
theorem PSq(σ:Sto){k:PK}{vs:List PV}{rs:List (Option PV)}(h:AJ k vs=some rs):EM pur IR (.p k) vs σ rs σ:=ji h
theorem QSq(σ:Sto){k:RK}{vs:List PV}{rs:List (Option PV)}(h:BR k vs σ=some rs):EM pur IR (.r k) vs σ rs σ:=um h
theorem oWq{f:FuncId}{xs:List PV}{σ σ':Sto}{r:PV}(h:EQ f xs σ r σ')(hp:pur f=false)(hs:xs.map PV.Ag=xs∧xs.all PV.free=true∧r.Ag=r):EM pur IR (.w (.call f)) xs σ [some r] σ':=rA h hp hs.1 hs.2.1 hs.2.2
theorem oDq{f:FuncId}{xs:List PV}{σ σ':Sto}{r:PV}(h:EQ f xs σ r σ')(hp:pur f=false)(hs:xs.map PV.Ag=xs∧xs.all PV.free=true∧r.Ag=r):EM pur IR (.w .calld) (.func f [] []::xs) σ [some r] σ':=WV h hp (by simpa using hs.1) hs.2.1 hs.2.2
theorem oCq(σ:Sto){f:FuncId}{xs:List PV}{r:PV}{s:Sto}(h:EQ f xs [] r s)(hs:(xs.all PV.free&&xs.all PV.flat)=true∧xs.map PV.Ag=xs∧r.flat=true∧r.Ag=r):EM pur IR (.c f) xs σ [some r] σ:=uo h hs.2.1 hs.1 hs.2.2.1 hs.2.2.2
def sd(g:Nat){L:Prop}(h:L):Stp:=⟨g,.grd true,fun x=>L∧x,fun x=>⟨h,x⟩⟩
theorem ldq{k:RK}{vs:List PV}{rs:List (Option PV)}{σ σ':Sto}(h0:K8 rs rs=true)(h1:BR k vs σ=some rs)(h2:BR k vs σ'=some rs):∃rs,K8 rs rs=true∧BR k vs σ=some rs∧BR k vs σ'=some rs:=⟨rs,h0,h1,h2⟩
theorem lqc{A B:Prop}(a:A)(b:B):A∧B:=⟨a,b⟩
theorem J6{n:Nat}{σ:Sto}{r:PV}(h:r.flat=true∧r.one=true∧r.Ag=r):Hy (EH (n+1) σ) r=some r:=by
 obtain⟨h1,h2,h3⟩:=h;cases r<;>first | (cases h2;done) | (cases h1;done) | skip
 all_goals (simp only[Hy,EH,h1,h2,h3,Bool.and_self,if_true])
end
end Go.Abs.Z

namespace Go.Abs.Z
open Go.Proofs Go.RowKit
set_option linter.unusedVariables false
open Classical
section
variable{f g k:PV}{ps:List Pt}{gs ks:List PV}{gl kl:List (List Int)}{fw:Bool}
theorem aO{τ:Sto}{n:Nat}:AW (τ++[[PV.arrv 0 16 (List.replicate n (wv zW))]]) τ.length n (fun _=>zW):=by
 unfold AW;rw[Bp];congr 3;refine BH fun i=>?_
 by_cases hi:i<n
 ·rw[FZ (S:=fun _=>zW) hi,Cs,if_pos hi]
 ·rw[AC (by rw[DL];omega),AC (by rw[Am,CO];omega)]
theorem qU{τb:Sto}{G K F i:Nat}(hv:Fj ps)(hg:Dg gl∧gl.length=ps.length)(hk:Dg kl∧kl.length=ps.length)(hG:AW τb G ps.length (Tn gl ps.length))(hK:AW τb K ps.length (Tn kl ps.length))(hsc:Sc τb.length τb F i ps.length (ML fw ps))(hpf:pur F=false):
  ∃(τ' τ8 τ9:Sto) (X Z:Nat) (S T:Nat→W),LpE a7 0 (fP fw true τb.length (τb++[[PV.arrv 0 16 (List.replicate ps.length (wv zW))]]).length G K F i ps.length) (τb++[[PV.arrv 0 16 (List.replicate ps.length (wv zW))]]++[[PV.arrv 0 16 (List.replicate ps.length (wv zW))]]) (.exit 0) [(1,some (.bool fw)),(18,some (.arr τb.length 0 0 ps.length 16)),(19,some (.arr (τb++[[PV.arrv 0 16 (List.replicate ps.length (wv zW))]]).length 0 0 ps.length 16))] τ'∧
   E 32 [.arr (if fw then τb.length else(τb++[[PV.arrv 0 16 (List.replicate ps.length (wv zW))]]).length) 0 0 ps.length 16] τ' (.arr X 0 0 ps.length 1) τ8∧E 32 [.arr (if fw then(τb++[[PV.arrv 0 16 (List.replicate ps.length (wv zW))]]).length else τb.length) 0 0 ps.length 16] τ8 (.arr Z 0 0 ps.length 1) τ9∧
   (∀id,id<τb.length→τ9[id]?=τb[id]?)∧LL τ9 (.arr X 0 0 ps.length 1) X ((List.range ps.length).map fun i=>lst (bit ((if fw then S else T) i)))∧LL τ9 (.arr Z 0 0 ps.length 1) Z ((List.range ps.length).map fun i=>lst (bit ((if fw then T else S) i)))∧
   (∀i v,i<ps.length→v<1024→(bit (S i) v=true↔(sy7 fw ps gl kl hv hg hk).In i v))∧(∀i v,i<ps.length→v<1024→(bit (T i) v=true↔(sy7 fw ps gl kl hv hg hk).R i v)):=by
 have hm:=hv.most
 have h7:C7 τb.length (τb++[[PV.arrv 0 16 (List.replicate ps.length (wv zW))]]).length G K F i ps.length τb.length τb (sy7 fw ps gl kl hv hg hk):=
  ⟨rfl,hm,by simp,Be _,by simp,hG,hK,(Ab.1 hG).1,(Ab.1 hK).1,hsc,hpf⟩
 have hx:X7 τb.length (τb++[[PV.arrv 0 16 (List.replicate ps.length (wv zW))]]).length ps.length τb.length τb (τb++[[PV.arrv 0 16 (List.replicate ps.length (wv zW))]]++[[PV.arrv 0 16 (List.replicate ps.length (wv zW))]]) (fun _=>zW) (fun _=>zW):=
  ⟨aO.old Old.push,aO,(Old.push.trans Old.push).2⟩
 obtain⟨τ',S,T,h1,h2,h3,h4,h5⟩:=xD (fw:=fw) h7 _ _ _ _ rfl hx Gud.init;have hl1:=(Ab.1 h1.a).1;cases fw with
 |true=>
  obtain⟨τ8,v,X,ho,hL,hE⟩:=e32 h1.a h2.s16 hm;obtain⟨τ9,z,Z,ho2,hL2,hE2⟩:=e32 (h1.c.old ho) h2.t16 hm;have hv1:=hL.v;have hv2:=hL2.v;rw[Am,CO] at hv1 hv2;subst hv1;subst hv2;exact⟨τ',τ8,τ9,X,Z,S,T,h5,hE,hE2,fun id hid=>((ho.trans ho2).2 id (by omega)).trans (h1.l id hid),hL.old ho2,hL2,h3,h4⟩
 |false=>
  obtain⟨τ8,v,X,ho,hL,hE⟩:=e32 h1.c h2.t16 hm;obtain⟨τ9,z,Z,ho2,hL2,hE2⟩:=e32 (h1.a.old ho) h2.s16 hm;have hv1:=hL.v;have hv2:=hL2.v;rw[Am,CO] at hv1 hv2;subst hv1;subst hv2;exact⟨τ',τ8,τ9,X,Z,S,T,h5,hE,hE2,fun id hid=>((ho.trans ho2).2 id (by omega)).trans (h1.l id hid),hL.old ho2,hL2,h3,h4⟩
theorem e7L{τ:Sto}(hf:Cw f ps)(hg:Dk g gs gl)(hk:Dk k ks kl)(hps:∀p∈ps,p.nx.length<4000000000)(hpl:ps.length<4000000000)(hgs:∀l∈gl,l.length<4000000000)(hks:∀l∈kl,l.length<4000000000)(hv:Fj ps)(hag:Dg gl∧gl.length=ps.length)(hak:Dg kl∧kl.length=ps.length):
  ∃(τ':Sto) (X Z:Nat) (S T:Nat→W),E 7 [.agg [f],.bool fw,g,k] τ (.tuple [.arr X 0 0 ps.length 1,.arr Z 0 0 ps.length 1,I 0]) τ'∧
   LL τ' (.arr X 0 0 ps.length 1) X ((List.range ps.length).map fun i=>lst (bit ((if fw then S else T) i)))∧LL τ' (.arr Z 0 0 ps.length 1) Z ((List.range ps.length).map fun i=>lst (bit ((if fw then T else S) i)))∧
   (∀i v,i<ps.length→v<1024→(bit (S i) v=true↔(sy7 fw ps gl kl hv hag hak).In i v))∧(∀i v,i<ps.length→v<1024→(bit (T i) v=true↔(sy7 fw ps gl kl hv hag hak).R i v)):=by
 rcases e26 (τ:=τ++[[f]]) hf hps with⟨hnv,_⟩ | ⟨_,τ1,B,es,ids,hb,hsh,h26⟩
 ·exact absurd hv hnv
 obtain⟨τ3,ho3,h3⟩:=e27 (τ1++[[.arr B 0 0 ps.length 1]]) hg ps.length hpl hgs;obtain⟨τ4,ho4,h4⟩:=e27 τ3 hk ps.length hpl hks;have ho1:=hb.old;have hi:τ1[τ.length]?=some [f]:=ho1.get Bp;have hro:τ4[τ1.length]?=some [PV.arr B 0 0 ps.length 1]:=(ho3.trans ho4).get Bp;have h0:0<ps.length:=by have:=hv.two;omega
 obtain⟨_,G,hGl,hG,hg27⟩:=h3.resolve_right fun h=>h.1 hag
 obtain⟨_,K,hKl,hK,hk27⟩:=h4.resolve_right fun h=>h.1 hak
 have hb4:Bf (τ++[[f]]) τ4 B ps.length (Nn ps (List.range ps.length) fun _=>[]) es ids:=by
  have ho:Old τ1 τ4:=(Old.push.trans ho3).trans ho4
  exact⟨ho.get hb.at_,hb.len,hb.inj,fun x hx=>by
   rcases hb.el x hx with h | ⟨h1,h2,h3,h5,h6⟩
   ·exact .inl h
   ·exact .inr ⟨h1,h2,h3,h5,ho.get h6⟩,hb.old.trans ho,hb.b0⟩
 have hi4:τ4[τ.length]?=some [f]:=((Old.push.trans ho3).trans ho4).get hi;have lt:∀{id:Nat} {o:List PV},τ4[id]?=some o→id<τ4.length:=fun h=>(Ab.1 h).1
 have hmx:ps.length≤Cb:=by have:=hv.most;show ps.length≤4294967296;omega
 cases fw with
 |true=>
  have hsc:=AzT (M:=τ4.length) hb4 hsh hv hro (lt hro) (lt hb4.at_) fun x hx hne=>by
   rcases hb4.el x hx with⟨h,_⟩ | ⟨_,_,_,_,h6⟩
   ·exact absurd h hne
   ·exact lt h6
  obtain⟨τ',τ8,τ9,X,Z,S,T,h1,h2,h3,h5,h6,h7,h8,h9⟩:=qU (fw:=true) hv hag hak (hG.old ho4) hK hsc (by kernel_rfl)
  exact⟨τ9,X,Z,S,T,Aj2 hf hg hk h26 hi hg27 hk27 hro h0 hmx h1 h2 h3,h6,h7,h8,h9⟩
 |false=>
  have hsc:=AzU (M:=τ4.length) hf hv hps hi4 (lt hi4);obtain⟨τ',τ8,τ9,X,Z,S,T,h1,h2,h3,h5,h6,h7,h8,h9⟩:=qU (fw:=false) hv hag hak (hG.old ho4) hK hsc (by kernel_rfl)
  exact⟨τ9,X,Z,S,T,Aj3 hf hg hk h26 hi hg27 hk27 hro h0 hmx h1 h2 h3,h6,h7,h8,h9⟩
end
section
variable{τ:Sto}{f:PV→Option PV}
theorem VK:∀{vs:List PV} {P:Nat→PV→Prop},(∀(i:Nat) (v:PV),vs[i]?=some v→∃q,f v=some q∧P i q)→∃qs,allM f vs=some qs∧qs.length=vs.length∧∀(i:Nat) (q:PV),qs[i]?=some q→P i q
 |[],P,_=>⟨[],rfl,rfl,fun i q h=>by simp at h⟩
 |v::vs,P,h=>by
  obtain⟨q,h1,h2⟩:=h 0 v rfl;obtain⟨qs,h3,h4,h5⟩:=VK (vs:=vs) (P:=fun i q=>P (i+1) q) (fun i v hv=>h (i+1) v hv)
  refine⟨q::qs,by simp only[allM,h1,h3],by simp[h4],fun i q' hq=>?_⟩
  cases i with
  |zero=>cases hq;exact h2
  |succ i=>exact h5 i q' hq
theorem O6{n:Nat}:∀l:List Int,allM (Hy (EH (n+1) τ)) (ints l)=some (ints l)
 |[]=>rfl
 |x::l=>by
  show allM _ (I x::ints l)=some (I x::ints l);simp only[allM,J6 (r:=I x) ⟨rfl,rfl,rfl⟩,O6 l]
theorem Sw{n id gen off len:Nat}{es ws:List PV}(hr:Gs τ id gen off len 1=some es)(h:allM (Hy (EH n τ)) es=some ws):Hy (EH (n+1) τ) (.arr id gen off len 1)=some (.slice false 1 ws):=by
 have e:EH (n+1) τ (.arr id gen off len 1)=some (.slice false 1 ws):=by simp only[EH,hr,h,Ay]
 show(match EH (n+1) τ (.arr id gen off len 1) with | some q=>if q.one then some q else none | none=>none)=_
 rw[e];rfl
theorem lW{n:Nat}{w:PV}{l:List Int}(h:L6 τ w l):∃q,Hy (EH (n+2) τ) w=some q∧Ls q l:=by
 rcases h with⟨rfl,rfl⟩ | ⟨id,rfl,h2⟩
 ·exact⟨.nils,J6 ⟨rfl,rfl,rfl⟩,.inr ⟨rfl,rfl⟩⟩
 ·refine⟨si l,?_,.inl rfl⟩
  have hr:Gs τ id (l.length - 1) 0 l.length 1=some (ints l):=by
   unfold Gs;rw[h2];simp[Dq];rw[BC (by simp)]
  exact Sw hr (O6 l)
theorem LL.deep{v:PV}{B n:Nat}{ls:List (List Int)}(h:LL τ v B ls):∃ws,Hy (EH (n+3) τ) v=some (.slice false 1 ws)∧Lss ws ls:=by
 obtain⟨rfl,es,h2,h3,h4⟩:=h
 have hr:Gs τ B 0 0 ls.length 1=some es:=by
  unfold Gs;rw[h2];simp[Dq,←h3]
 obtain⟨ws,h5,h6,h7⟩:=VK (f:=Hy (EH (n+2) τ)) (vs:=es) (P:=fun i q=>∀l,ls[i]?=some l→Ls q l) (fun i w hw=>by
  have hi:=(Ab.1 hw).1;obtain⟨q,hq,hl⟩:=lW (n:=n) (h4 i w _ hw (Ad (l:=ls) (show i<ls.length by omega))).2
  refine⟨q,hq,fun l hl2=>?_⟩
  rw[Ad (l:=ls) (show i<ls.length by omega)] at hl2
  cases hl2;exact hl)
 refine⟨ws,?_,by rw[h6,h3],fun i w l hw hl=>h7 i w hw l hl⟩
 exact Sw hr h5
end
section
variable{f g k:PV}{ps:List Pt}{gs ks:List PV}{gl kl:List (List Int)}{fw:Bool}
theorem xN(hf:Cw f ps)(hg:Dk g gs gl)(hk:Dk k ks kl)(hps:∀p∈ps,p.nx.length<4000000000)(hpl:ps.length<4000000000)(hgs:∀l∈gl,l.length<4000000000)(hks:∀l∈kl,l.length<4000000000)(hv:Fj ps)(hag:Dg gl∧gl.length=ps.length)(hak:Dg kl∧kl.length=ps.length):
  ∃(ws us:List PV) (S T:Nat→W),Iso 7 [.agg [f],.bool fw,g,k] (.tuple [.slice false 1 ws,.slice false 1 us,I 0])∧
   Lss ws ((List.range ps.length).map fun i=>lst (bit ((if fw then S else T) i)))∧Lss us ((List.range ps.length).map fun i=>lst (bit ((if fw then T else S) i)))∧
   (∀i v,i<ps.length→v<1024→(bit (S i) v=true↔(sy7 fw ps gl kl hv hag hak).In i v))∧(∀i v,i<ps.length→v<1024→(bit (T i) v=true↔(sy7 fw ps gl kl hv hag hak).R i v)):=by
 obtain⟨τ',X,Z,S,T,h1,h2,h3,h4,h5⟩:=e7L (τ:=[]) (fw:=fw) hf hg hk hps hpl hgs hks hv hag hak;obtain⟨ws,a1,a2⟩:=h2.deep (n:=0);obtain⟨us,b1,b2⟩:=h3.deep (n:=0);refine⟨ws,us,S,T,⟨_,_,h1,?_⟩,a2,b2,h4,h5⟩
 simp only[SA,allM,a1,b1,J6 (r:=I 0) ⟨rfl,rfl,rfl⟩,Ay]
end
end Go.Abs.Z

namespace Go.Abs.Z
open PV
open Go.Proofs Go.RowKit
set_option linter.unusedVariables false
set_option linter.unusedSimpArgs false
def el(w:PV):PV:=.agg [I 0,I 0,w]
def oth(x:Nat):Nat:=if x<2 then 1 - x else x
section
variable{τ:Sto}{A O n i:Nat}{ws:List PV}{r w:PV}
theorem vW(hne:ws≠[])(hl:ws.length≤Cb)(h:∀w∈ws,w.ones=true∧w.okc=true∧w.Ag=w):EM pur run (.w (.Fa 1)) [.empt,.slice false 1 ws] τ [some (.arr τ.length 0 0 ws.length 1)] (τ++[[.arrv 0 1 ws]]):=by
 refine⟨0,fun n _=>?_⟩
 have h1:ws.isEmpty=false:=by cases ws with | nil=>exact absurd rfl hne | cons=>rfl
 have h2:ws.length≤Cb∧ws.all PV.ones=true∧ws.all PV.okc=true:=⟨hl,Ao.2 fun w hw=>(h w hw).1,Ao.2 fun w hw=>(h w hw).2.1⟩
 have h3:ws.map PV.Ag=ws:=by
  conv=>rhs;rw[←List.map_id ws]
  exact D5 fun w hw=>(h w hw).2.2
 show Cq pur (run n) (.Fa 1) [.empt,.slice false 1 ws] τ=_;simp only[Cq,Jn,if_true,Fa,h1,Bool.false_eq_true,if_false,if_pos h2,h3]
theorem sP{x:Nat}(h:x<2):AJ (.bin .sub 0) [I 1,N x]=some [some (N (1 - x))]:=by
 apply Ye;have:x=0∨x=1:=by omega
 rcases this with rfl | rfl<;>rfl
theorem Pn{σ:Sto}(h:σ[O]?=some [.arr A 0 0 n 3]):BR (.ld 1 false) [.ref O 0] σ=some [some (.arr A 0 0 n 3)]:=by
 simp only[BR,h,K9];rfl
theorem xJ{σ:Sto}(h:σ[O]?=some [.arr A 0 0 n 3]):BR (.ld 1 true) [.ref O 0] σ=some [some (.aggr [.arr A 0 0 n 3])]:=by
 simp only[BR,h,K9];rfl
theorem lS(hw:ws[i]?=some w):(ws.map el)[i]?=some (.agg [I 0,I 0,w]):=by rw[Af,hw];rfl
theorem rM(hA:τ[A]?=some [.arrv 0 3 (ws.map el)])(hw:ws[i]?=some w)(ho:Lp w):BR (.ld 1 false) [.aptr A 0 3 i 2] τ=some [some w]:=by
 simp only[BR,hA,Dq,and_self,if_true,lS hw];rcases ho with rfl | ⟨_,_,_,rfl⟩<;>rfl
theorem qM(hA:τ[A]?=some [.arrv 0 3 (ws.map el)])(hw:ws[i]?=some w)(hr:Lp r):EM pur run (.w (.st 1)) [.aptr A 0 3 i 2,r] τ [] (τ.set A [.arrv 0 3 ((ws.set i r).map el)]):=by
 refine⟨0,fun n _=>?_⟩
 have hc:r.cells.length=1∧r.okc∧r.ones:=by rcases hr with rfl | ⟨_,_,_,rfl⟩<;>exact⟨rfl,rfl,rfl⟩
 have hu:upd (.agg [I 0,I 0,w]) 2 r.Ag=some (el r):=by rcases hr with rfl | ⟨_,_,_,rfl⟩<;>rfl
 show Cq pur (run n) (.st 1) [.aptr A 0 3 i 2,r] τ=_;simp only[Cq,hA,Dq,and_self,if_true,lS hw,if_pos hc,hu,List.map_set];rfl
theorem AvY(h:n≤Cb):EM pur run (.w (.mks 3 (.agg [.int .i64 0,.int .i64 0,.nils]))) [N n,N n] τ [some (.arr τ.length 0 0 n 3)] (τ++[[PV.arrv 0 3 ((List.replicate n PV.nils).map el)]]):=by
 refine⟨0,fun m _=>?_⟩
 show(if _ then _ else _)=_
 rw[if_pos ⟨rfl,by omega,by exact_mod_cast h,rfl,rfl⟩,Bz,List.map_replicate];rfl
theorem aQ(a b c d e:Nat):K8 [some (.arr a b c d e)] [some (.arr a b c d e)]=true:=by simp[K8,peq]
end
variable{x:Nat}{τ:Sto}{ws:List PV}{f:PV}
theorem R12:Rn 12 a12:=fun _ _ _=>by kernel_rfl
theorem R13:Rn 13 a13:=fun _ _ _=>by kernel_rfl
theorem R14:Rn 14 a14:=fun _ _ _=>by kernel_rfl
theorem R37:Rn 37 a37:=fun _ _ _=>by kernel_rfl
theorem AjX(h:x<2):E 37 [N x] [] (N (1 - x)) []:=by
 exact rule R37 [sp 2 (Cm .i64 (show(x:Int) < 2 by omega)),sp 2 (sP h)]
theorem AjW(h:¬x<2):E 37 [N x] [] (N x) []:=by
 exact rule R37 [sp 2 (CY .i64 (show ¬(x:Int) < 2 by omega))]
theorem e37(x:Nat):E 37 [N x] [] (N (oth x)) []:=by
 unfold oth;split
 ·rename_i h;exact AjX h
 ·rename_i h;exact AjW h
theorem q13(hne:ws≠[])(hl:ws.length≤Cb)(h:∀w∈ws,w.ones=true∧w.okc=true∧w.Ag=w):E 13 [.slice false 1 ws] τ (.arr τ.length 0 0 ws.length 1) (τ++[[PV.arrv 0 1 ws]]):=by
 exact rule R13 [st 6 (vW (τ:=τ) hne hl h)]
theorem q12{w0 w1:PV}{l0 l1:List Int}(h13:E 13 [.slice false 1 ws] τ (.arr τ.length 0 0 ws.length 1) (τ++[[PV.arrv 0 1 ws]]))(h0:ws[0]?=some w0)(h1:ws[1]?=some w1)(hl0:Ls w0 l0)(hl1:Ls w1 l1):E 12 [.slice false 1 ws] τ (.arr τ.length 0 0 ws.length 1) (((τ++[[PV.arrv 0 1 ws]]).set τ.length [PV.arrv 0 1 (ws.set 0 w1)]).set τ.length [PV.arrv 0 1 ((ws.set 0 w1).set 1 w0)]):=by
 have k1:1<ws.length:=(Ab.1 h1).1;have k0:0<ws.length:=by omega
 exact rule R12 [st 2 (oW h13 (by kernel_rfl) ⟨rfl,rfl,rfl⟩),sp 4 (DX (A:=τ.length) (size:=1) k1),st 0 (QS (τ++[[PV.arrv 0 1 ws]]) (kQ Bp h1 hl1)),sp 1 (DX (A:=τ.length) (size:=1) k0),st 0 (QS (τ++[[PV.arrv 0 1 ws]]) (kQ Bp h0 hl0)),sp 0 (DX (A:=τ.length) (size:=1) k0),st 0 (qN (τ:=(τ++[[PV.arrv 0 1 ws]])) (A:=τ.length) Bp h0 hl0 hl1),sp 0 (DX (A:=τ.length) (size:=1) k1),st 0 (qN (τ:=((τ++[[PV.arrv 0 1 ws]]).set τ.length [PV.arrv 0 1 (ws.set 0 w1)])) (A:=τ.length) (is:=ws.set 0 w1) (a:=1) (w:=w1) (AP (by simp)) (by rw[Ap (by decide)];exact h1) hl1 hl0)]
theorem AvI{ps:List Pt}(hf:Cw f ps){A B O n i k:Nat}{p:Pt}{ws:List PV}(hB:τ[B]?=some [f])(hO:τ[O]?=some [.arr A 0 0 n 3])(hA:τ[A]?=some [.arrv 0 3 (ws.map el)])(hp:ps[i]?=some p){x:Nat}(hk:k<p.nx.length)(hkn:p.nx.length<4000000000)(hx:p.nx[k]?=some (x:Int))(hxn:oth x<n)(hw:ws[oth x]?=some .nils)(hA2:(τ++[[PV.arrv 0 1 [N (oth i)]]])[A]?=some [.arrv 0 3 (ws.map el)])(hO2:(τ++[[PV.arrv 0 1 [N (oth i)]]])[O]?=some [.arr A 0 0 n 3]){e:Bt}{ff1:FF}{σ1:Sto}(hnx:LpE a14 1 [(1,ref B 0),(2,agg [.nils]),(3,ref O 0),(4,N i),(5,N (k+1))] ((τ++[[PV.arrv 0 1 [N (oth i)]]]).set A [PV.arrv 0 3 ((ws.set (oth x) (.arr τ.length 0 0 1 1)).map el)]) e ff1 σ1):LpE a14 1 [(1,ref B 0),(2,agg [.nils]),(3,ref O 0),(4,N i),(5,N k)] τ e ff1 σ1:=by
 exact ER [1,2,3,4,5] [st 2 (QS τ (Dj hf hB)),sp 1 (by rw[hf.CQ hp];exact DW hp:AJ (.idx 3) [f,N i]=some [some (.vptr p.pv)]),sp 0 (Gc p),st 0 (QS τ (Eg p.ok:BR (.ld 1 false) [.vptr p.v] τ=some [some p.v])),sp 0 (E8 p.ok),sp 0 (Cm .i64 (show(k:Int) < (p.nx.length:Int) by omega)),st 2 (QS τ (Dj hf hB)),sp 1 (by rw[hf.CQ hp];exact DW hp:AJ (.idx 3) [f,N i]=some [some (.vptr p.pv)]),sp 0 (Gc p),st 0 (QS τ (Eg p.ok:BR (.ld 1 false) [.vptr p.v] τ=some [some p.v])),sp 1 (by rw[p.ok.CQ hx];exact Dh (o:=false) hx:AJ (.idx 1) [p.v,N k]=some [some (.vptr (N x))]),st 3 (oCS τ (e37 x)),st 2 (QS τ (Pn hO)),st 2 (QS τ (Pn hO)),sp 1 (DX (A:=A) (size:=3) hxn),st 1 (QS τ (rM hA hw (.inl rfl))),st 1 (oCS τ (e37 i)),st 1 (su (τ:=τ) (a:=oth i)),sp 0 (DX (A:=A) (size:=3) hxn),st 1 (qM (i:=oth x) (r:=(.arr τ.length 0 0 1 1)) hA2 hw (.inr ⟨_,_,_,rfl⟩)),sd 0 (lqc (ldq (rs:=[some (.arr A 0 0 n 3)]) (aQ A 0 0 n 3) (Pn hO) (Pn hO2)) trivial),sp 1 (Di k 1 (by omega))] hnx
theorem AvJ{ps:List Pt}(hf:Cw f ps){A B O n i k:Nat}{p:Pt}{ws:List PV}(hB:τ[B]?=some [f])(hO:τ[O]?=some [.arr A 0 0 n 3])(hA:τ[A]?=some [.arrv 0 3 (ws.map el)])(hp:ps[i]?=some p){x:Nat}(hk:k<p.nx.length)(hkn:p.nx.length<4000000000)(hx:p.nx[k]?=some (x:Int))(hxn:oth x<n){id:Nat}{l:List Int}(hw:ws[oth x]?=some (.arr id (l.length - 1) 0 l.length 1))(hid:τ[id]?=some [.arrv (l.length - 1) 1 (l.map (PV.int .i64))])(hl:0<l.length)(hlm:l.length<4000000000)(hA2:(τ.set id [.arrv l.length 1 ((l++[((oth i:Nat):Int)]).map (PV.int .i64))])[A]?=some [.arrv 0 3 (ws.map el)])(hO2:(τ.set id [.arrv l.length 1 ((l++[((oth i:Nat):Int)]).map (PV.int .i64))])[O]?=some [.arr A 0 0 n 3]){e:Bt}{ff1:FF}{σ1:Sto}(hnx:LpE a14 1 [(1,ref B 0),(2,agg [.nils]),(3,ref O 0),(4,N i),(5,N (k+1))] ((τ.set id [.arrv l.length 1 ((l++[((oth i:Nat):Int)]).map (PV.int .i64))]).set A [PV.arrv 0 3 ((ws.set (oth x) (.arr id l.length 0 (l.length+1) 1)).map el)]) e ff1 σ1):LpE a14 1 [(1,ref B 0),(2,agg [.nils]),(3,ref O 0),(4,N i),(5,N k)] τ e ff1 σ1:=by
 exact ER [1,2,3,4,5] [st 2 (QS τ (Dj hf hB)),sp 1 (by rw[hf.CQ hp];exact DW hp:AJ (.idx 3) [f,N i]=some [some (.vptr p.pv)]),sp 0 (Gc p),st 0 (QS τ (Eg p.ok:BR (.ld 1 false) [.vptr p.v] τ=some [some p.v])),sp 0 (E8 p.ok),sp 0 (Cm .i64 (show(k:Int) < (p.nx.length:Int) by omega)),st 2 (QS τ (Dj hf hB)),sp 1 (by rw[hf.CQ hp];exact DW hp:AJ (.idx 3) [f,N i]=some [some (.vptr p.pv)]),sp 0 (Gc p),st 0 (QS τ (Eg p.ok:BR (.ld 1 false) [.vptr p.v] τ=some [some p.v])),sp 1 (by rw[p.ok.CQ hx];exact Dh (o:=false) hx:AJ (.idx 1) [p.v,N k]=some [some (.vptr (N x))]),st 3 (oCS τ (e37 x)),st 2 (QS τ (Pn hO)),st 2 (QS τ (Pn hO)),sp 1 (DX (A:=A) (size:=3) hxn),st 1 (QS τ (rM hA hw (.inr ⟨_,_,_,rfl⟩))),st 1 (oCS τ (e37 i)),st 1 (sj (a:=oth i) hid hl hlm),sp 0 (DX (A:=A) (size:=3) hxn),st 1 (qM (i:=oth x) (r:=(.arr id l.length 0 (l.length+1) 1)) hA2 hw (.inr ⟨_,_,_,rfl⟩)),sd 0 (lqc (ldq (rs:=[some (.arr A 0 0 n 3)]) (aQ A 0 0 n 3) (Pn hO) (Pn hO2)) trivial),sp 1 (Di k 1 (by omega))] hnx
theorem AvG{ps:List Pt}(hf:Cw f ps){A B O n i k:Nat}{p:Pt}{ws:List PV}(hB:τ[B]?=some [f])(hO:τ[O]?=some [.arr A 0 0 n 3])(hA:τ[A]?=some [.arrv 0 3 (ws.map el)])(hp:ps[i]?=some p)(hk:¬k<p.nx.length):LpE a14 1 [(1,ref B 0),(2,agg [.nils]),(3,ref O 0),(4,N i),(5,N k)] τ (.exit 2) [(1,ref B 0),(2,agg [.nils]),(3,ref O 0),(4,N i)] τ:=by
 exact DR [1,2,3,4] [st 2 (QS τ (Dj hf hB)),sp 1 (by rw[hf.CQ hp];exact DW hp:AJ (.idx 3) [f,N i]=some [some (.vptr p.pv)]),sp 0 (Gc p),st 0 (QS τ (Eg p.ok:BR (.ld 1 false) [.vptr p.v] τ=some [some p.v])),sp 0 (E8 p.ok),sp 0 (CY .i64 (show ¬(k:Int) < (p.nx.length:Int) by omega))]
theorem AvH{ps:List Pt}(hf:Cw f ps){B O i:Nat}(hB:τ[B]?=some [f]){τ2:Sto}(hi:i<ps.length)(hpl:ps.length<4000000000)(L:LpE a14 1 [(1,ref B 0),(2,agg [.nils]),(3,ref O 0),(4,N i),(5,N 0)] τ (.exit 2) [(1,ref B 0),(2,agg [.nils]),(3,ref O 0),(4,N i)] τ2){e:Bt}{ff1:FF}{σ1:Sto}(hnx:LpE a14 0 [(1,ref B 0),(2,agg [.nils]),(3,ref O 0),(4,N (i+1))] τ2 e ff1 σ1):LpE a14 0 [(1,ref B 0),(2,agg [.nils]),(3,ref O 0),(4,N i)] τ e ff1 σ1:=by
 exact ER [1,2,3,4] [st 2 (QS τ (Dj hf hB)),sp 0 (DF hf),sp 0 (Cm .i64 (show(i:Int) < (ps.length:Int) by omega)),sl 2 [1,2,3,4,5] L,sp 1 (Di i 1 (by omega))] hnx
theorem AvF{ps:List Pt}(hf:Cw f ps){B O i:Nat}(hB:τ[B]?=some [f])(hi:¬i<ps.length):LpE a14 0 [(1,ref B 0),(2,agg [.nils]),(3,ref O 0),(4,N i)] τ (.exit 0) [(2,agg [.nils]),(3,ref O 0)] τ:=by
 exact DR [2,3] [st 2 (QS τ (Dj hf hB)),sp 0 (DF hf),sp 0 (CY .i64 (show ¬(i:Int) < (ps.length:Int) by omega))]
theorem q14{ps:List Pt}(hf:Cw f ps){τ2:Sto}{A:Nat}(hm:ps.length≤Cb)(hO:τ2[(τ++[[f]]++[[PV.arrv 0 3 ((List.replicate ps.length PV.nils).map el)]]).length]?=some [.arr A 0 0 ps.length 3])(L:LpE a14 0 [(1,ref τ.length 0),(2,agg [.nils]),(3,ref (τ++[[f]]++[[PV.arrv 0 3 ((List.replicate ps.length PV.nils).map el)]]).length 0),(4,N 0)] (τ++[[f]]++[[PV.arrv 0 3 ((List.replicate ps.length PV.nils).map el)]]++[[PV.arr (τ++[[f]]).length 0 0 ps.length 3]]) (.exit 0) [(2,agg [.nils]),(3,ref (τ++[[f]]++[[PV.arrv 0 3 ((List.replicate ps.length PV.nils).map el)]]).length 0)] τ2):E 14 [.agg [f]] τ (.aggr [.arr A 0 0 ps.length 3]) τ2:=by
 exact rule R14 [st 0 (FN (τ:=τ) hf),st 2 (QS (τ++[[f]]) (Dj hf Bp)),sp 0 (DF hf),st 0 (AvY (τ:=(τ++[[f]])) hm),sl 4 [1,2,3,4] L,st 0 (QS τ2 (xJ hO))]
end Go.Abs.Z

namespace Go.Abs.Z
open Go.Proofs Go.RowKit
set_option linter.unusedVariables false
theorem FL(x:Nat):oth (oth x)=x:=by
 unfold oth;by_cases h:x<2
 ·rw[if_pos h,if_pos (by omega)];omega
 ·rw[if_neg h,if_neg h]
theorem Km{x n:Nat}(h:x<n)(hn:2≤n):oth x<n:=by unfold oth;split<;>omega
def rst(i:Nat)(g:Nat→List Int)(x:Nat):Nat→List Int:=CG g (oth x) (g (oth x)++[((oth i:Nat):Int)])
theorem pY{g:Nat→List Int}{x i z:Nat}{y:Int}:y∈rst i g x z↔y∈g z∨(y=(oth i:Nat)∧oth x=z):=by
 unfold rst CG;by_cases hz:z=oth x
 ·subst hz;rw[if_pos rfl];simp
 ·rw[if_neg hz];exact⟨.inl,fun h=>h.elim id fun h=>absurd h.2.symm hz⟩
theorem Xa{i z:Nat}{y:Int}:∀(l:List Nat) (g:Nat→List Int),y∈(l.foldl (rst i) g) z↔y∈g z∨(y=(oth i:Nat)∧∃x∈l,oth x=z)
 |[],g=>by simp
 |x::l,g=>by
  rw[Cn,Xa l,pY];simp only[Av,exists_eq_or_imp];constructor
  ·rintro((h | h) | h)
   ·exact .inl h
   ·exact .inr ⟨h.1,.inl h.2⟩
   ·exact .inr ⟨h.1,.inr h.2⟩
  ·rintro(h | ⟨h,h1 | h1⟩)
   ·exact .inl (.inl h)
   ·exact .inl (.inr ⟨h,h1⟩)
   ·exact .inr ⟨h,h1⟩
structure Br(τb:Sto)(T:Nat)(τ:Sto)(A n:Nat)(g:Nat→List Int)(ws:List PV)(ids:Nat→Nat):Prop where
 at_:τ[A]?=some [.arrv 0 3 (ws.map el)]
 len:ws.length=n
 inj:∀x y,x<n→y<n→g x≠[]→g y≠[]→ids x=ids y→x=y
 el:∀x,x<n→(g x=[]∧ws[x]?=some .nils)∨(g x≠[]∧T≤ids x∧ws[x]?=some (.arr (ids x) ((g x).length - 1) 0 (g x).length 1)∧τ[ids x]?=some [.arrv ((g x).length - 1) 1 ((g x).map (PV.int .i64))])
 aT:A<T
 hT:T≤τ.length
 old:∀id,id<T→id≠A→τ[id]?=τb[id]?
section
variable{A B O n i T:Nat}{f:PV}{ps:List Pt}{p:Pt}{τb:Sto}
theorem Z6(hf:Cw f ps)(hB:τb[B]?=some [f])(hO:τb[O]?=some [.arr A 0 0 n 3])(hBT:B<T)(hOT:O<T)(hBA:B≠A)(hOA:O≠A)(hn2:2≤n)(hp:ps[i]?=some p)(hkn:p.nx.length<1000000000)(hto:∀x∈p.nx,0≤x∧x<(n:Int)):∀(m k M:Nat) (τ:Sto) (g:Nat→List Int) (ws:List PV) (ids:Nat→Nat),m=p.nx.length - k→k≤p.nx.length→(∀x,(g x).length≤M)→M+m<4000000000→Br τb T τ A n g ws ids→
  ∃τ' ws' ids',Br τb T τ' A n (((p.nx.drop k).map Int.toNat).foldl (rst i) g) ws' ids'∧(∀x,((((p.nx.drop k).map Int.toNat).foldl (rst i) g) x).length≤M+m)∧
   LpE a14 1 [(1,some (.ref B 0)),(2,some (.agg [.nils])),(3,some (.ref O 0)),(4,some (N i)),(5,some (N k))] τ (.exit 2) [(1,some (.ref B 0)),(2,some (.agg [.nils])),(3,some (.ref O 0)),(4,some (N i))] τ'
 |0,k,M,τ,g,ws,ids,hm,hk,hM,hMm,hb=>by
  rw[Dw (by omega)]
  exact⟨τ,ws,ids,hb,hM,AvG hf (by rw[hb.old B hBT hBA];exact hB) (by rw[hb.old O hOT hOA];exact hO) hb.at_ hp (by omega)⟩
 |m+1,k,M,τ,g,ws,ids,hm,hk,hM,hMm,hb=>by
  have hkl:k<p.nx.length:=by omega
  have hx0:=Ad hkl;obtain⟨h1,h2⟩:=hto _ (AQ hkl);obtain⟨x,hx⟩:∃x:Nat,p.nx[k]=(x:Int):=⟨p.nx[k].toNat,by omega⟩
  have hxn:oth x<n:=Km (by omega) hn2
  have hxx:p.nx[k]?=some (x:Int):=by rw[hx0,hx]
  rw[BB hkl,AR,Cn,hx,Bz]
  have hM2:∀y,(rst i g x y).length≤M+1:=fun y=>by
   unfold rst CG;split
   ·have:=hM (oth x);simp;omega
   ·have:=hM y;omega
  have ih:=Z6 hf hB hO hBT hOT hBA hOA hn2 hp hkn hto m (k+1) (M+1);have hBl:=(Ab.1 hb.at_).1;have hB1:τ[B]?=some [f]:=by rw[hb.old B hBT hBA];exact hB
  have hO1:τ[O]?=some [.arr A 0 0 n 3]:=by rw[hb.old O hOT hOA];exact hO
  have haT:=hb.aT;have hhT:=hb.hT;rcases hb.el (oth x) hxn with⟨h3,h4⟩ | ⟨h3,h5,h6,h7⟩
  ·have e:rst i g x=CG g (oth x) [((oth i:Nat):Int)]:=by unfold rst;rw[h3];rfl
   have hb2:Br τb T ((τ++[[PV.arrv 0 1 [N (oth i)]]]).set A [.arrv 0 3 ((ws.set (oth x) (.arr τ.length 0 0 1 1)).map Z.el)]) A n (rst i g x) (ws.set (oth x) (.arr τ.length 0 0 1 1)) (CG ids (oth x) τ.length):=by
    rw[e];refine⟨AP (by simp;omega),by rw[Bo];exact hb.len,fun y z hy hz gy gz hyz=>?_,fun y hy=>?_,haT,by simp;omega,fun id hid hne=>by rw[Ap (Ne.symm hne),Ae (by omega)];exact hb.old id hid hne⟩
    ·have hlt:∀w,w<n→w≠oth x→CG g (oth x) [((oth i:Nat):Int)] w≠[]→ids w<τ.length:=fun w hw hwx gw=>by
      unfold CG at gw;rw[if_neg hwx] at gw;rcases hb.el w hw with⟨h8,_⟩ | ⟨_,_,_,h8⟩
      ·exact absurd h8 gw
      ·exact(Ab.1 h8).1
     by_cases hyx:y=oth x
     ·by_cases hzx:z=oth x
      ·rw[hyx,hzx]
      ·have:=hlt z hz hzx gz;unfold CG at hyz;rw[if_pos hyx,if_neg hzx] at hyz;omega
     ·by_cases hzx:z=oth x
      ·have:=hlt y hy hyx gy;unfold CG at hyz;rw[if_pos hzx,if_neg hyx] at hyz;omega
      ·unfold CG at hyz gy gz;rw[if_neg hyx,if_neg hzx] at hyz;rw[if_neg hyx] at gy;rw[if_neg hzx] at gz;exact hb.inj y z hy hz gy gz hyz
    ·by_cases hyx:y=oth x
     ·subst hyx;unfold CG;rw[if_pos rfl,if_pos rfl];refine .inr ⟨by simp,hhT,?_,?_⟩
      ·rw[AP (by rw[hb.len];exact hy)];rfl
      ·rw[Ap (by omega)];exact Bp
     ·unfold CG;rw[if_neg hyx,if_neg hyx,Ap (Ne.symm hyx)];rcases hb.el y hy with h8 | ⟨h8,h10,h11,h12⟩
      ·exact .inl h8
      ·exact .inr ⟨h8,h10,h11,by rw[Ap (by omega)];exact Hw h12⟩
   obtain⟨τ',ws',ids',h8,h9,h10⟩:=ih _ _ _ _ (by omega) (by omega) hM2 (by omega) hb2
   exact⟨τ',ws',ids',h8,fun y=>by have:=h9 y;omega,AvI hf hB1 hO1 hb.at_ hp hkl (by omega) hxx hxn h4 (Hw hb.at_) (Hw hO1) h10⟩
  ·have hl:0<(g (oth x)).length:=Ej.2 h3;have hlm:(g (oth x)).length<4000000000:=by have:=hM (oth x);omega
   have e:rst i g x=CG g (oth x) (g (oth x)++[((oth i:Nat):Int)]):=rfl;have hidl:=(Ab.1 h7).1
   have hb2:Br τb T ((τ.set (ids (oth x)) [.arrv (g (oth x)).length 1 ((g (oth x)++[((oth i:Nat):Int)]).map (PV.int .i64))]).set A [.arrv 0 3 ((ws.set (oth x) (.arr (ids (oth x)) (g (oth x)).length 0 ((g (oth x)).length+1) 1)).map Z.el)]) A n (rst i g x) (ws.set (oth x) (.arr (ids (oth x)) (g (oth x)).length 0 ((g (oth x)).length+1) 1)) ids:=by
    rw[e]
    have ge:∀w,CG g (oth x) (g (oth x)++[((oth i:Nat):Int)]) w≠[]→g w≠[]:=fun w hw=>by
     by_cases hwx:w=oth x
     ·subst hwx;exact h3
     ·unfold CG at hw;rw[if_neg hwx] at hw;exact hw
    refine⟨AP (by simp;omega),by rw[Bo];exact hb.len,fun y z hy hz gy gz hyz=>hb.inj y z hy hz (ge y gy) (ge z gz) hyz,fun y hy=>?_,haT,by simp;omega,fun id hid hne=>by
     rw[Ap (Ne.symm hne),Ap (by omega)];exact hb.old id hid hne⟩
    by_cases hyx:y=oth x
    ·subst hyx;unfold CG;rw[if_pos rfl];refine .inr ⟨by simp,h5,?_,?_⟩
     ·rw[AP (by rw[hb.len];exact hxn)];simp
     ·rw[Ap (by omega),AP hidl];simp
    ·unfold CG;rw[if_neg hyx,Ap (Ne.symm hyx)];rcases hb.el y hy with h8 | ⟨h8,h10,h11,h12⟩
     ·exact .inl h8
     ·exact .inr ⟨h8,h10,h11,by
       rw[Ap (by omega),Ap fun he=>hyx (hb.inj (oth x) y hxn hy h3 h8 he).symm];exact h12⟩
   obtain⟨τ',ws',ids',h8,h9,h10⟩:=ih _ _ _ _ (by omega) (by omega) hM2 (by omega) hb2
   exact⟨τ',ws',ids',h8,fun y=>by have:=h9 y;omega,AvJ hf hB1 hO1 hb.at_ hp hkl (by omega) hxx hxn h6 h7 hl hlm (by rw[Ap (by omega)];exact hb.at_) (by rw[Ap (by omega)];exact hO1) h10⟩
def QM(ps:List Pt)(l:List Nat)(g:Nat→List Int):Nat→List Int:=l.foldl (fun g i=>(nxN ps i).foldl (rst i) g) g
theorem Xb{z:Nat}{y:Int}:∀(l:List Nat) (g:Nat→List Int),y∈QM ps l g z↔y∈g z∨∃i∈l,y=(oth i:Nat)∧∃x∈nxN ps i,oth x=z
 |[],g=>by simp[QM]
 |i::l,g=>by
  show y∈QM ps l _ z↔_;rw[Xb l,Xa];simp only[Av,exists_eq_or_imp];rw[or_assoc]
theorem kG(hf:Cw f ps)(hn:n=ps.length)(hs:ps.length≤1024)(hB:τb[B]?=some [f])(hO:τb[O]?=some [.arr A 0 0 n 3])(hBT:B<T)(hOT:O<T)(hBA:B≠A)(hOA:O≠A)(hv:Fj ps)(h8:∀p∈ps,p.nx.length≤8):∀(m i:Nat) (τ:Sto) (g:Nat→List Int) (ws:List PV) (ids:Nat→Nat),m=n - i→i≤n→(∀x,(g x).length≤8 * i)→Br τb T τ A n g ws ids→
  ∃τ' ws' ids',Br τb T τ' A n (QM ps (List.range' i m) g) ws' ids'∧(∀x,(QM ps (List.range' i m) g x).length≤8 * n)∧
   LpE a14 0 [(1,some (.ref B 0)),(2,some (.agg [.nils])),(3,some (.ref O 0)),(4,some (N i))] τ (.exit 0) [(2,some (.agg [.nils])),(3,some (.ref O 0))] τ'
 |0,i,τ,g,ws,ids,hm,hi,hM,hb=>⟨τ,ws,ids,hb,fun x=>by have:=hM x;show(g x).length≤_;omega,AvF hf (by rw[hb.old B hBT hBA];exact hB) (by omega)⟩
 |m+1,i,τ,g,ws,ids,hm,hi,hM,hb=>by
  have hil:i<ps.length:=by omega
  have hp:=Ad hil;have hpm:=AQ hil;have h88:=h8 _ hpm;obtain⟨τ1,ws1,ids1,a1,a2,a3⟩:=Z6 (i:=i) hf hB hO hBT hOT hBA hOA (by have:=hv.two;omega) hp (by omega) (fun x hx=>by have:=hv.to _ hpm x hx;omega) ps[i].nx.length 0 (8 * i) τ g ws ids (by omega) (by omega) hM (by omega) hb
  rw[CS,←Mq hp] at a1 a2;obtain⟨τ2,ws2,ids2,b1,b2,b3⟩:=kG hf hn hs hB hO hBT hOT hBA hOA hv h8 m (i+1) τ1 _ ws1 ids1 (by omega) (by omega) (fun x=>by have:=a2 x;omega) a1
  refine⟨τ2,ws2,ids2,b1,b2,AvH hf (by rw[hb.old B hBT hBA];exact hB) hil (by omega) a3 b3⟩
end
section
variable{τ:Sto}{f:PV}{ps:List Pt}
theorem Sz{n:Nat}{r:PV}(h:r.flat=true∧r.one=true∧r.Ag=r):EH (n+1) τ r=some r:=by
 obtain⟨h1,h2,h3⟩:=h;cases r<;>first | (cases h2;done) | (cases h1;done) | skip
 all_goals (simp only[EH,h1,h2,h3,Bool.and_self,if_true])
theorem dF{n:Nat}{w:PV}{l:List Int}(h:L6 τ w l):∃q,EH (n+2) τ w=some q∧Ls q l:=by
 rcases h with⟨rfl,rfl⟩ | ⟨id,rfl,h2⟩
 ·exact⟨.nils,Sz ⟨rfl,rfl,rfl⟩,.inr ⟨rfl,rfl⟩⟩
 ·refine⟨si l,?_,.inl rfl⟩
  have hr:Gs τ id (l.length - 1) 0 l.length 1=some (ints l):=by
   unfold Gs;rw[h2];simp[Dq];rw[BC (by simp)]
  show EH ((n+1)+1) τ _=_;simp only[EH.eq_2,hr,O6 l,Ay]
def Uz(ps qs:List Pt):Prop:=qs.length=ps.length∧∀(z:Nat) (q:Pt),qs[z]?=some q→q.nx=QM ps (List.range ps.length) (fun _=>[]) z
theorem WR:∀{P:Nat→Pt→Prop} (l:List PV),(∀(i:Nat) (q:PV),l[i]?=some q→∃p:Pt,q=p.pv∧P i p)→∃qs:List Pt,l=qs.map Pt.pv∧∀(z:Nat) (q:Pt),qs[z]?=some q→P z q
 |P,[],_=>⟨[],rfl,fun z q h=>by simp at h⟩
 |P,v::l,h=>by
  obtain⟨p,h1,h2⟩:=h 0 v rfl;obtain⟨qs,h3,h4⟩:=WR (P:=fun i p=>P (i+1) p) l fun i q hq=>h (i+1) q hq
  refine⟨p::qs,by rw[h1,h3];rfl,fun z q hq=>?_⟩
  cases z with
  |zero=>cases hq;exact h2
  |succ z=>exact h4 z q hq
theorem xP(hf:Cw f ps)(hv:Fj ps)(h8:∀p∈ps,p.nx.length≤8):∃qs,Uz ps qs∧(∀q∈qs,q.nx.length≤8 * ps.length)∧Iso 14 [.agg [f]] (.agg [.slice false 3 (qs.map Pt.pv)]):=by
 have hm:=hv.most
 have hb0:Br (([]:Sto)++[[f]]++[[PV.arrv 0 3 ((List.replicate ps.length PV.nils).map el)]]++[[PV.arr 1 0 0 ps.length 3]]) 3 (([]:Sto)++[[f]]++[[PV.arrv 0 3 ((List.replicate ps.length PV.nils).map el)]]++[[PV.arr 1 0 0 ps.length 3]]) 1 ps.length (fun _=>[]) (List.replicate ps.length PV.nils) (fun _=>0):=
  ⟨rfl,DL ..,fun x y _ _ h=>absurd rfl h,fun x hx=>.inl ⟨rfl,by rw[Cs,if_pos hx]⟩,by decide,Be 3,fun _ _ _=>rfl⟩
 obtain⟨τ',ws,ids,h1,h2,h3⟩:=kG (B:=0) (O:=2) hf rfl hm rfl rfl (by decide) (by decide) (by decide) (by decide) hv h8 ps.length 0 _ _ _ _ (by omega) (by omega) (fun x=>Be _) hb0
 rw[←DU] at h1 h2;have hO:τ'[2]?=some [.arr 1 0 0 ps.length 3]:=h1.old 2 (by decide) (by decide)
 have hE:=q14 (τ:=[]) (A:=1) hf (by show ps.length≤4294967296;omega) hO h3
 have hr:Gs τ' 1 0 0 ps.length 3=some (ws.map el):=by
  unfold Gs;rw[h1.at_];simp[Dq,h1.len];rw[BC (by simp[h1.len])]
 obtain⟨es,a1,a2,a3⟩:=VK (f:=Hy (EH 2 τ')) (vs:=ws.map el) (P:=fun i q=>∃p:Pt,q=p.pv∧p.nx=QM ps (List.range ps.length) (fun _=>[]) i) (fun i v hi=>by
  rw[Af] at hi;obtain⟨w,hw,rfl⟩:=Ac.1 hi;have hin:i<ps.length:=by have:=(Ab.1 hw).1;rw[h1.len] at this;exact this
  have hl:L6 τ' w (QM ps (List.range ps.length) (fun _=>[]) i):=by
   rcases h1.el i hin with⟨b1,b2⟩ | ⟨b1,b2,b3,b4⟩
   ·rw[hw] at b2;cases b2;exact .inl ⟨rfl,b1⟩
   ·rw[hw] at b3;cases b3;exact .inr ⟨ids i,rfl,b4⟩
  obtain⟨q,hq,hls⟩:=dF (n:=0) hl;refine⟨(⟨0,0,q,_,hls⟩:Pt).pv,?_,⟨0,0,q,_,hls⟩,rfl,rfl⟩
  show(allM (EH 2 τ') [I 0,I 0,w]).map PV.agg=_;simp only[allM,Sz (r:=I 0) ⟨rfl,rfl,rfl⟩,hq,Ay]
  rfl)
 have hcho:∀l:List PV,(∀(i:Nat) (q:PV),l[i]?=some q→∃p:Pt,q=p.pv∧p.nx=QM ps (List.range ps.length) (fun _=>[]) i)→∃qs:List Pt,l=qs.map Pt.pv∧∀(z:Nat) (q:Pt),qs[z]?=some q→q.nx=QM ps (List.range ps.length) (fun _=>[]) z:=by
  intro l h;exact WR (P:=fun i p=>p.nx=QM ps (List.range ps.length) (fun _=>[]) i) l h
 obtain⟨qs,c1,c2⟩:=hcho es a3;refine⟨qs,⟨?_,c2⟩,fun q hq=>?_,_,_,hE,?_⟩
 ·have:=congrArg List.length c1;rw[Am] at this;rw[←this,a2,Am,h1.len]
 ·obtain⟨z,hz⟩:=Bb.1 hq;rw[c2 z q hz];exact h2 z
 ·have e:EH 3 τ' (.arr 1 0 0 ps.length 3)=some (.slice false 3 (qs.map Pt.pv)):=by
   show EH (2+1) τ' _=_;simp only[EH.eq_2,hr,a1,Ay,c1]
  show(allM (EH 3 τ') [.arr 1 0 0 ps.length 3]).map PV.agg=_;simp only[allM,e,Ay]
end
def swp{α:Type}(l:List α):List α:=match l with
 |a::b::r=>b::a::r
 |l=>l
theorem Me{α:Type}(l:List α):(swp l).length=l.length:=by
 match l with
 |[]=>rfl
 |[a]=>rfl
 |a::b::r=>rfl
theorem swp_get{α:Type}{l:List α}(h:2≤l.length)(i:Nat):(swp l)[i]?=l[oth i]?:=by
 match l,h with
 |a::b::r,_=>
  match i with
  |0=>rfl
  |1=>rfl
  |i+2=>rfl
section
variable{ws:List PV}{ls:List (List Int)}
theorem Lss.swp(h:Lss ws ls)(h2:2≤ls.length):Lss (swp ws) (Z.swp ls):=⟨by rw[Me,Me];exact h.1,fun i w l hw hl=>by
 rw[swp_get (by rw[h.1];exact h2)] at hw
 rw[swp_get h2] at hl;exact h.2 _ w l hw hl⟩
theorem xQ(h:Lss ws ls)(h2:2≤ls.length)(hm:ls.length<4000000000):Iso 12 [.slice false 1 ws] (.slice false 1 (swp ws)):=by
 have hl:=h.1
 have el:∀w∈ws,∃l,Ls w l:=fun w hw=>by
  obtain⟨i,hi⟩:=Bb.1 hw;have:=(Ab.1 hi).1;exact⟨_,h.2 i w _ hi (Ad (l:=ls) (by omega))⟩
 match ws,hl with
 |w0::w1::r,hl=>
  obtain⟨l0,e0⟩:=el w0 (by simp)
  obtain⟨l1,e1⟩:=el w1 (by simp)
  have h13:=q13 (τ:=[]) (ws:=w0::w1::r) (by simp) (by show _≤4294967296;omega) fun w hw=>by
   obtain⟨l,hl⟩:=el w hw;refine⟨?_,?_,hl.dis⟩<;>rcases hl with rfl | ⟨rfl,_⟩<;>rfl
  refine⟨_,_,q12 h13 rfl rfl e0 e1,?_⟩
  have hr:Gs ([[PV.arrv 0 1 (w1::w0::r)]]:Sto) 0 0 0 (w0::w1::r).length 1=some (w1::w0::r):=by
   unfold Gs;simp[Dq]
  have ha:∀l:List PV,(∀w∈l,∃m,Ls w m)→allM (Hy (EH 2 ([[PV.arrv 0 1 (w1::w0::r)]]:Sto))) l=some l:=by
   intro l hl
   induction l with
   |nil=>rfl
   |cons w l ih=>
    obtain⟨m,hw⟩:=hl w (by simp)
    have:Hy (EH 2 ([[PV.arrv 0 1 (w1::w0::r)]]:Sto)) w=some w:=J6 ⟨hw.flat,hw.one,hw.dis⟩;simp only[allM,this,ih fun w hw=>hl w (Bw _ hw)]
  show SA 3 ([[PV.arrv 0 1 (w1::w0::r)]]:Sto) (.arr 0 0 0 (w0::w1::r).length 1)=some (.slice false 1 (w1::w0::r));exact Sw hr (ha _ fun w hw=>el w (by simp only[Av] at hw ⊢;rcases hw with h | h | h<;>simp[h]))
 |[],hl=>simp at hl;omega
 |[_],hl=>simp at hl;omega
end
end Go.Abs.Z

namespace Go.Abs.Z
open Go.Proofs Go.RowKit
set_option linter.unusedVariables false
open Classical
section
variable{f g k:PV}{ps:List Pt}{gs ks:List PV}{gl kl:List (List Int)}{fw:Bool}
end
end Go.Abs.Z

namespace Go.Abs.Z
open Go.Proofs Go.RowKit
set_option linter.unusedVariables false
set_option linter.unusedSimpArgs false
theorem e5(σ:Sto):E 5 [] σ (.bool true) σ:=Uk 0 fun k _=>by kernel_rfl
end Go.Abs.Z

namespace Go.Abs.Z
open Go.Proofs Go.RowKit
set_option linter.unusedVariables false
open Classical
section
variable{ps:List Pt}{gl kl:List (List Int)}{fw:Bool}
theorem TB(hv:Fj ps)(hg:Dg gl∧gl.length=ps.length)(hk:Dg kl∧kl.length=ps.length):(sy7 fw ps gl kl hv hg hk).sr=fun(i j:Nat)=>(i,j)∈K5 fw ps:=by
 funext i j
 exact propext (V6 hv).symm
theorem aM{ls:List (List Int)}{n i v:Nat}(h:Dg ls)(hn:ls.length=n):(v<1024∧bit (Tn ls n i) v=true)↔(i<n∧(v:Int)∈ls.getD i []):=by
 unfold Tn;by_cases hi:i<n
 ·have hS:Set' (ls.getD i []):=by rw[Ip (by omega)];exact h _ (AQ _)
  rw[if_pos hi];constructor
  ·rintro⟨h1,h2⟩
   rw[aN hS.2 h1] at h2;exact⟨hi,of_decide_eq_true h2⟩
  ·rintro⟨_,h2⟩
   have h1:v<1024:=by have:=hS.2 _ h2;omega
   exact⟨h1,by rw[aN hS.2 h1];exact decide_eq_true h2⟩
 ·rw[if_neg hi];constructor
  ·rintro⟨_,h2⟩
   rw[SI] at h2;cases h2
  ·rintro⟨h1,_⟩;exact absurd h1 hi
theorem Ou(hv:Fj ps)(hg:Dg gl∧gl.length=ps.length)(hk:Dg kl∧kl.length=ps.length):(sy7 fw ps gl kl hv hg hk).gen=fun(i v:Nat)=>i<ps.length∧(v:Int)∈gl.getD i []:=by
 funext i v
 refine propext ?_
 show(i<ps.length∧v<1024∧bit (Tn gl ps.length i) v=true)↔_;rw[aM hg.1 hg.2];exact⟨fun h=>h.2,fun h=>⟨h.1,h⟩⟩
theorem Md(hv:Fj ps)(hg:Dg gl∧gl.length=ps.length)(hk:Dg kl∧kl.length=ps.length):(sy7 fw ps gl kl hv hg hk).kill=fun(i v:Nat)=>(v:Int)∈kl.getD i []:=by
 funext i v
 refine propext ?_
 show(bit (Tn kl ps.length i) v=true)↔_;have hb:=aM (i:=i) (v:=v) hk.1 hk.2;constructor
 ·intro h
  have h1:v<1024:=by
   refine Classical.byContradiction fun hc=>?_
   unfold bit at h;rw[Aj,AC (by rw[QL hk.1 hk.2];omega)] at h
   simp at h
  exact(hb.1 ⟨h1,h⟩).2
 ·intro h
  have hi:i<ps.length:=by
   refine Classical.byContradiction fun hc=>?_
   rw[Aj,AC (by omega)] at h
   simp at h
  exact(hb.2 ⟨hi,h⟩).2
end
end Go.Abs.Z

namespace Go.Abs.Z
open Go.Proofs Go.RowKit
set_option linter.unusedVariables false
section
variable{ps qs:List Pt}
theorem ZZ{a b:Nat}:b∈nxN ps a↔∃p,ps[a]?=some p∧∃x∈p.nx,x.toNat=b:=by
 unfold nxN;cases h:ps[a]? with
 |none=>simp
 |some p=>simp
theorem Kn(hv:Fj ps){a b:Nat}(h:b∈nxN ps a):a<ps.length∧a≠1∧1≤b∧b<ps.length:=by
 obtain⟨p,hp,x,hx,rfl⟩:=ZZ.1 h;have h1:=hv.to p (AA hp) x hx;refine⟨(Ab.1 hp).1,?_,by omega,by omega⟩
 rintro rfl
 rw[hv.one p hp] at hx;cases hx
theorem Qg(hv:Fj ps)(hq:Uz ps qs){j:Nat}{q:Pt}(hj:qs[j]?=some q){y:Int}:y∈q.nx↔∃i:Nat,y=(oth i:Nat)∧oth j∈nxN ps i:=by
 rw[hq.2 j q hj,Xb];constructor
 ·rintro(h | ⟨i,hi,rfl,x,hx,rfl⟩)
  ·cases h
  ·exact⟨i,rfl,by rw[FL];exact hx⟩
 ·rintro⟨i,rfl,h⟩
  exact .inr ⟨i,Bg.2 (Kn hv h).1,rfl,_,h,FL j⟩
theorem tX(hv:Fj ps)(hq:Uz ps qs){i j:Nat}:i∈nxN qs j↔j<ps.length∧oth j∈nxN ps (oth i):=by
 rw[ZZ];constructor
 ·rintro⟨q,hj,x,hx,rfl⟩
  obtain⟨i,rfl,h⟩:=(Qg hv hq hj).1 hx;refine⟨by have:=(Ab.1 hj).1;rw[hq.1] at this;exact this,?_⟩
  rw[Bz,FL];exact h
 ·rintro⟨hj,h⟩
  have hj2:=Ad (l:=qs) (show j<qs.length by rw[hq.1];exact hj)
  exact⟨_,hj2,((i:Nat):Int),(Qg hv hq hj2).2 ⟨oth i,by rw[FL],h⟩,by simp⟩
theorem pu(hv:Fj ps)(hq:Uz ps qs):Fj qs:=by
 refine⟨by rw[hq.1];exact hv.two,by rw[hq.1];exact hv.most,fun q h=>List.eq_nil_iff_forall_not_mem.2 fun y hy=>?_,fun q h y hy=>?_⟩
 ·obtain⟨i,_,h2⟩:=(Qg hv hq h).1 hy;have:=(Kn hv h2).2.2.1;exact absurd this (by decide)
 ·obtain⟨j,hj⟩:=Bb.1 h;obtain⟨i,rfl,h2⟩:=(Qg hv hq hj).1 hy;obtain⟨h3,h4,_,_⟩:=Kn hv h2;have h5:=Km h3 hv.two;rw[hq.1];refine⟨?_,by omega⟩
  have:oth i≠0:=fun e=>h4 (by have:=FL i;rw[e] at this;exact this.symm)
  omega
theorem Y8{i j:Nat}:(i,j)∈K5 false ps↔i<ps.length∧j∈nxN ps i:=by
 unfold K5;rw[CE];simp[Vz]
theorem vw{i j:Nat}:(i,j)∈K5 true ps↔j<ps.length∧i∈nxN ps j:=by
 unfold K5;rw[CE];simp[Vz];exact⟨fun⟨a,h1,b,h2,h3,h4⟩=>by subst h3 h4;exact⟨h1,h2⟩,fun⟨h1,h2⟩=>⟨j,h1,i,h2,rfl,rfl⟩⟩
theorem iG(hv:Fj ps)(hq:Uz ps qs){i j:Nat}:(i,j)∈K5 true qs↔(oth i,oth j)∈K5 false ps:=by
 rw[vw,Y8,tX hv hq,hq.1];constructor
 ·rintro⟨h1,_,h3⟩;exact⟨(Kn hv h3).1,h3⟩
 ·rintro⟨h1,h2⟩
  have h3:=(Kn hv h2).2.2.2;have h4:=Km h3 hv.two;rw[FL] at h4;exact⟨h4,h4,h2⟩
end
section
variable{src gen kill src' gen' kill':Nat→Nat→Prop}
theorem Ww(hs:∀i j,src' i j→src (oth i) (oth j))(hg:∀i v,gen' i v→gen (oth i) v)(hk:∀i v,kill (oth i) v→kill' i v){i v:Nat}(h:Rch src' gen' kill' i v):Rch src gen kill (oth i) v:=by
 induction h with
 |gen h=>exact .gen (hg _ _ h)
 |step h1 _ h3 ih=>exact .step (hs _ _ h1) ih fun h=>h3 (hk _ _ h)
theorem UU(hs:∀i j,src' i j↔src (oth i) (oth j))(hg:∀i v,gen' i v↔gen (oth i) v)(hk:∀i v,kill' i v↔kill (oth i) v){i v:Nat}:Rch src' gen' kill' i v↔Rch src gen kill (oth i) v:=by
 refine⟨Ww (fun i j=>(hs i j).1) (fun i v=>(hg i v).1) fun i v=>(hk i v).2,fun h=>?_⟩
 have:=Ww (src':=src) (gen':=gen) (kill':=kill) (src:=src') (gen:=gen') (kill:=kill') (fun i j h=>(hs _ _).2 (by rw[FL,FL];exact h)) (fun i v h=>(hg _ _).2 (by rw[FL];exact h)) (fun i v h=>by have:=(hk _ _).1 h;rw[FL] at this;exact this) h
 rw[FL] at this;exact this
theorem qj(hs:∀i j,src' i j↔src (oth i) (oth j))(hg:∀i v,gen' i v↔gen (oth i) v)(hk:∀i v,kill' i v↔kill (oth i) v){i v:Nat}:Inn src' gen' kill' i v↔Inn src gen kill (oth i) v:=by
 constructor
 ·rintro⟨j,h1,h2⟩;exact⟨oth j,(hs _ _).1 h1,(UU hs hg hk).1 h2⟩
 ·rintro⟨j,h1,h2⟩
  exact⟨oth j,(hs _ _).2 (by rw[FL];exact h1),(UU hs hg hk).2 (by rw[FL];exact h2)⟩
end
theorem jU{p q:Nat→Bool}(h:∀v,v<1024→(p v=true↔q v=true)):lst p=lst q:=by
 unfold lst;rw[List.filter_congr fun v hv=>?_]
 have:=h v (Bg.1 hv);cases hp:p v<;>cases hq:q v<;>simp[hp,hq] at this ⊢
theorem V3{l:List (List Int)}(h:2≤l.length)(i:Nat):(swp l).getD i []=l.getD (oth i) []:=by
 rw[Aj,swp_get h,←Aj]
theorem Zt{l:List (List Int)}(h:Dg l):Dg (swp l):=fun x hx=>h x (by
 match l,hx with
 |[],hx=>exact hx
 |[a],hx=>exact hx
 |a::b::r,hx=>simp only[swp,Av] at hx ⊢;rcases hx with h | h | h<;>simp[h])
section
variable{ps qs:List Pt}{gl kl:List (List Int)}
theorem iF(hv:Fj ps)(hq:Uz ps qs)(hw:Fj qs)(hg:Dg gl∧gl.length=ps.length)(hk:Dg kl∧kl.length=ps.length)(hg':Dg (swp gl)∧(swp gl).length=qs.length)(hk':Dg (swp kl)∧(swp kl).length=qs.length){i v:Nat}:
  ((sy7 true qs (swp gl) (swp kl) hw hg' hk').In i v↔(sy7 false ps gl kl hv hg hk).In (oth i) v)∧((sy7 true qs (swp gl) (swp kl) hw hg' hk').R i v↔(sy7 false ps gl kl hv hg hk).R (oth i) v):=by
 have h2:2≤gl.length:=by rw[hg.2];exact hv.two
 have h3:2≤kl.length:=by rw[hk.2];exact hv.two
 have a1:∀i j,(i,j)∈K5 true qs↔(oth i,oth j)∈K5 false ps:=fun i j=>iG hv hq
 have a2:∀i v:Nat,(i<qs.length∧(v:Int)∈(swp gl).getD i [])↔(oth i<ps.length∧(v:Int)∈gl.getD (oth i) []):=fun i v=>by
  rw[V3 h2,hq.1];have e:i<ps.length↔oth i<ps.length:=⟨fun h=>Km h hv.two,fun h=>by have:=Km h hv.two;rw[FL] at this;exact this⟩
  rw[e]
 have a3:∀i v:Nat,((v:Int)∈(swp kl).getD i [])↔((v:Int)∈kl.getD (oth i) []):=fun i v=>by rw[V3 h3]
 constructor
 ·show Inn _ _ _ i v↔Inn _ _ _ (oth i) v;rw[TB,Ou,Md,TB,Ou,Md];exact qj a1 a2 a3
 ·show Rch _ _ _ i v↔Rch _ _ _ (oth i) v;rw[TB,Ou,Md,TB,Ou,Md];exact UU a1 a2 a3
theorem qw(hv:Fj ps)(hg:Dg gl∧gl.length=ps.length)(hk:Dg kl∧kl.length=ps.length){S T:Nat→W}(hS:∀i v,i<ps.length→v<1024→(bit (S i) v=true↔(sy7 false ps gl kl hv hg hk).In i v))(hT:∀i v,i<ps.length→v<1024→(bit (T i) v=true↔(sy7 false ps gl kl hv hg hk).R i v)){a:Nat}(ha:a<ps.length){x:Int}:
  x∈lst (bit (S a))↔∃b∈nxN ps a,x∈lst (bit (T b)):=by
 simp only[U3];constructor
 ·rintro⟨v,h1,h2,rfl⟩
  obtain⟨j,h3,h4⟩:=(hS a v ha h1).1 h2;rw[TB] at h3;have h3':=(Y8 (ps:=ps)).1 h3;exact⟨j,h3'.2,v,h1,(hT j v (Kn hv h3'.2).2.2.2 h1).2 h4,rfl⟩
 ·rintro⟨b,hb,v,h1,h2,rfl⟩
  refine⟨v,h1,(hS a v ha h1).2 ⟨b,?_,(hT b v (Kn hv hb).2.2.2 h1).1 h2⟩,rfl⟩
  rw[TB];exact Y8.2 ⟨ha,hb⟩
theorem dC(hv:Fj ps)(hg:Dg gl∧gl.length=ps.length)(hk:Dg kl∧kl.length=ps.length){S T:Nat→W}(hS:∀i v,i<ps.length→v<1024→(bit (S i) v=true↔(sy7 false ps gl kl hv hg hk).In i v))(hT:∀i v,i<ps.length→v<1024→(bit (T i) v=true↔(sy7 false ps gl kl hv hg hk).R i v)){a:Nat}(ha:a<ps.length):
  Ih (lst (bit (S a))) (gl.getD a []) (kl.getD a [])=lst (bit (T a)):=by
 have hga:Set' (gl.getD a []):=by rw[Ip (by omega)];exact hg.1 _ (AQ _)
 refine QD (Ov _ hga.1) (Vf _) fun x=>?_
 rw[JW];simp only[U3];constructor
 ·intro h
  have hx:0≤x∧x<1024:=by
   rcases h with h | ⟨⟨v,h1,_,rfl⟩,_⟩
   ·exact hga.2 x h
   ·omega
  obtain⟨v,rfl⟩:∃v:Nat,x=v:=⟨x.toNat,by omega⟩
  refine⟨v,by omega,(hT a v ha (by omega)).2 (Ml.2 ?_),rfl⟩
  rcases h with h | ⟨⟨u,h1,h2,h3⟩,h4⟩
  ·refine .inl ?_
   rw[Ou];exact⟨ha,h⟩
  ·obtain rfl:v=u:=by omega
   refine .inr ⟨(hS a v ha h1).1 h2,?_⟩
   rw[Md];exact h4
 ·rintro⟨v,h1,h2,rfl⟩
  rcases Ml.1 ((hT a v ha h1).1 h2) with h | ⟨h,h3⟩
  ·rw[Ou] at h;exact .inl h.2
  ·rw[Md] at h3;exact .inr ⟨⟨v,h1,(hS a v ha h1).2 h,rfl⟩,h3⟩
end
end Go.Abs.Z
