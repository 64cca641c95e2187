/- A part of the proof: D16 D17 D18 D26 Y1 Y2 G11 Y5 HN Y3. -/
import Derived.Test.YtapgnmhobbgmiaaGreatDoorKbd
import Derived.Test.YtapgnmhobbgmiaaGreatDoorKbb
import Derived.Test.YtapgnmhobbgmiaaGreatDoorKbc
import Derived.Test.YtapgnmhobbgmiaaGreatDoorKba
import Derived.Test.YtapgnmhobbgmiaaGreatDoorKaw

set_option linter.unusedVariables false
set_option linter.unusedSimpArgs false
namespace Go.Abs.Z
open Go.Proofs Go.RowKit
section
variable{H T:Sto}{g n:Nat}
structure Kq(l r:List Dg):Prop where
 perm:r.Perm l
 keep:∀k,fk k r=fk k l
theorem Sd.kp{l r:List Dg}(h:Sd l r):Kq l r:=⟨h.perm,h.keep⟩
theorem Kq.refl(l:List Dg):Kq l l:=⟨.refl _,fun _=>rfl⟩
theorem Kq.trans{l m r:List Dg}(h:Kq l m)(h':Kq m r):Kq l r:=⟨h'.perm.trans h.perm,fun k=>(h'.keep k).trans (h.keep k)⟩
theorem Kq.mid{P L R Q:List Dg}(h:Kq L R):Kq (P++L++Q) (P++R++Q):=⟨pX h.perm,rM h.keep⟩
theorem Kq.len{l r:List Dg}(h:Kq l r):r.length=l.length:=h.perm.length_eq
theorem Kq.bd{l r:List Dg}(h:Kq l r)(hb:Bd l):Bd r:=fun d hd=>hb d (h.perm.mem_iff.1 hd)
theorem AzM{l:List Dg}{x y:Nat}(h:l.length≤x):seg l x y=[]:=by unfold seg;rw[Cf h,List.take_nil]
theorem RA{l:List Dg}{x y:Nat}(h:l.length≤x+y):seg l x y=l.drop x:=by unfold seg;exact CS (by rw[AU];omega)
theorem wy{P R Q:List Dg}{x y:Nat}(hx:x=P.length)(hy:y=R.length):seg (P++R++Q) x y=R:=by
 subst hx hy;unfold seg;rw[AP,List.drop_left,List.take_left]
theorem yH:Asc []:=List.Pairwise.nil
def Bl(w a:Nat)(l:List Dg):Prop:=∀q,q * w+w≤a→Asc (seg l (q * w) w)
def Ab(w a:Nat)(l:List Dg):Prop:=∀q,a≤q * w→Asc (seg l (q * w) w)
theorem Bl.step{w a q0:Nat}{P L R Q:List Dg}(h:Bl w a (P++L++Q))(ha:a=P.length)(hq:a=q0 * w)(hL:L.length=w)(hR:Asc R)(he:R.length=L.length):Bl w (a+w) (P++R++Q):=by
 intro q hq';by_cases c:q * w+w≤a
 ·have:=h q c;rw[OW (by omega)] at this ⊢;exact this
 ·have:q=q0:=by
   by_cases hw:w=0
   ·subst hw;simp at c
   ·have h1:q≤q0:=by
     have:q * w≤q0 * w:=by omega
     exact Nat.le_of_mul_le_mul_right this (by omega)
    have h2:q0<q+1:=by
     have:q0 * w<(q+1) * w:=by rw[BQ];omega
     exact EN this
    omega
  subst this;rw[wy (by omega) (by omega)];exact hR
theorem Ab.step{w a b:Nat}{P L R Q:List Dg}(h:Ab w a (P++L++Q))(ha:a=P.length)(hb:b=a+L.length)(he:R.length=L.length):Ab w b (P++R++Q):=by
 intro q hq;have:=h q (by omega)
 rw[kG (R:=R) (R':=L) he (by omega)];exact this
theorem Ra(hn:n<1000000000)(Ds0:List Dg)(hB:Bd Ds0)(hl:Ds0.length=n):∀(z i:Nat) (Ds:List Dg) {a b:Nat},n - a≤z→a=i * 20→b=a+20→a≤n→Kq Ds0 Ds→Bl 20 a Ds→
  ∃Ds' i' a' b',LL Ko 0 [(0,some (.arr H.length g 0 n 5)),(1,some (N n)),(2,some fnc),(6,some (I 20)),(7,some (N a)),(8,some (N b))] (aS H T g Ds) (.exit 0) [(0,some (.arr H.length g 0 n 5)),(1,some (N n)),(2,some fnc),(6,some (I 20)),(7,some (N a')),(8,some (N b'))] (aS H T g Ds')∧a'=i' * 20∧a'≤n∧n<a'+20∧Kq Ds0 Ds'∧Bl 20 a' Ds'
 |z,i,Ds,a,b,hz,ha,hb,han,hk,hs=>by
  by_cases c:b≤n
  ·have hlen:=hk.len;obtain⟨P,Q,e,eP,eS⟩:=nY Ds (x:=a) (y:=20) (by omega)
   generalize seg Ds a 20=L at e eS;subst e;obtain⟨R,hE,hS⟩:=Bx2 (H:=H) (T:=T) (g:=g) hn (P:=P) (L:=L) (Q:=Q) (a:=a) (b:=b) (by omega) (by omega) ((hk.bd hB).mono fun d hd=>by simp[hd]) (by omega)
   match z with
   |0=>omega
   |z+1=>
    have hst:Bl 20 (a+20) (P++R++Q):=hs.step (by omega) ha (by omega) hS.asc hS.len
    obtain⟨Ds',i',a',b',hL,x⟩:=Ra hn Ds0 hB hl z (i+1) (P++R++Q) (a:=b) (b:=b+20) (by omega) (by omega) rfl (by omega) (hk.trans hS.kp.mid) (by rw[hb];exact hst)
    exact⟨Ds',i',a',b',Vl (by omega) hE (by omega) hL,x⟩
  ·exact⟨Ds,i,a,b,Yi (by omega),ha,han,by omega,hk,hs⟩
theorem merges(hn:n<1000000000)(Ds0:List Dg)(hB:Bd Ds0)(hl:Ds0.length=n){w:Nat}(hw:0<w)(hwn:w<n):∀(z i:Nat) (Ds:List Dg) {a b:Nat},n - a≤z→a=i * (2 * w)→b=a+2 * w→a≤n→Kq Ds0 Ds→Bl (2 * w) a Ds→Ab w a Ds→
  ∃Ds' i' a' b',LL Ko 2 [(0,some (.arr H.length g 0 n 5)),(1,some (N n)),(2,some fnc),(6,some (N w)),(7,some (N a)),(8,some (N b))] (aS H T g Ds) (.exit 4) [(0,some (.arr H.length g 0 n 5)),(1,some (N n)),(2,some fnc),(6,some (N w)),(7,some (N a')),(8,some (N b'))] (aS H T g Ds')∧a'=i' * (2 * w)∧a'≤n∧n<a'+2 * w∧Kq Ds0 Ds'∧Bl (2 * w) a' Ds'∧Ab w a' Ds'
 |z,i,Ds,a,b,hz,ha,hb,han,hk,hs,hab=>by
  by_cases c:b≤n
  ·have hlen:=hk.len;have aw:a=(2 * i) * w:=by rw[ha,←Nat.mul_assoc,Ef i 2]
   obtain⟨P,Q,e,eP,eS⟩:=nY Ds (x:=a) (y:=w+w) (by omega)
   rw[wz] at e eS;have sA:=hab (2 * i) (by omega)
   have sB:=hab (2 * i+1) (by rw[BQ];omega)
   rw[←aw] at sA;rw[BQ,←aw] at sB;have lA:(seg Ds a w).length=w:=by unfold seg;rw[Ba,AU];omega
   have lB:(seg Ds (a+w) w).length=w:=by unfold seg;rw[Ba,AU];omega
   generalize seg Ds a w=A at *;generalize seg Ds (a+w) w=B at *;subst e;obtain⟨R,hE,hS⟩:=yB (H:=H) (T:=T) (g:=g) hn _ P A B Q (a:=a) (m:=a+w) (b:=b) (Ag _) (fun h=>by rw[h] at lA;simp at lA;omega) (fun h=>by rw[h] at lB;simp at lB;omega) (by omega) (by omega) (by omega) sA sB (by rw[show P++A++B++Q=P++(A++B)++Q by simp];exact hk.bd hB) (by rw[show P++A++B++Q=P++(A++B)++Q by simp];omega)
   match z with
   |0=>omega
   |z+1=>
    have hst:Bl (2 * w) (a+2 * w) (P++R++Q):=hs.step (by omega) ha (by omega) hS.asc hS.len
    have hat:Ab w b (P++R++Q):=hab.step (by omega) (by omega) hS.len
    obtain⟨Ds',i',a',b',hL,x⟩:=merges hn Ds0 hB hl hw hwn z (i+1) (P++R++Q) (a:=b) (b:=b+2 * w) (by omega) (by rw[BQ];omega) rfl (by omega) (hk.trans hS.kp.mid) (by rw[hb];exact hst) hat
    exact⟨Ds',i',a',b',Vi (by omega) (by omega) (by omega) (by rw[show P++(A++B)++Q=P++A++B++Q by simp];exact hE) (by omega) (by omega) (by omega) hL,x⟩
  ·exact⟨Ds,i,a,b,Yg (by omega),ha,han,by omega,hk,hs,hab⟩
theorem Bl.up{w a i:Nat}{l:List Dg}(h:Bl w a l)(ha:a=i * w)(hl:l.length<a+w)(hd:Asc (l.drop a)):Ab w 0 l:=by
 intro q _;by_cases c:q * w+w≤a
 ·exact h q c
 ·by_cases hq:l.length≤q * w
  ·rw[AzM hq];exact yH
  ·have:q=i:=by
    have h1:q<i+1:=by
     have:q * w<(i+1) * w:=by rw[BQ];omega
     exact EN this
    have h2:i<q+1:=by
     have:i * w<(q+1) * w:=by rw[BQ];omega
     exact EN this
    omega
   subst this;rw[←ha,RA (by omega)];exact hd
theorem grow(hn:n<1000000000)(Ds0:List Dg)(hB:Bd Ds0)(hl:Ds0.length=n):∀(z:Nat) (Ds:List Dg) {w m2 m3:Nat},n - w≤z→0<w→Kq Ds0 Ds→Ab w 0 Ds→
  ∃Ds' m1' m2' m3',LL Ko 1 [(0,some (.arr H.length g 0 n 5)),(1,some (N n)),(2,some fnc),(6,some (N w)),(7,some (N m2)),(8,some (N m3))] (aS H T g Ds) (.exit 2) [(0,some (.arr H.length g 0 n 5)),(1,some (N n)),(2,some fnc),(6,some (N m1')),(7,some (N m2')),(8,some (N m3'))] (aS H T g Ds')∧Sd Ds0 Ds'
 |z,Ds,w,m2,m3,hz,hw,hk,hab=>by
  have hlen:=hk.len;by_cases c:w<n
  ·obtain⟨Ds1,i,a,b,hL,ha,han,hna,hk1,hs1,hab1⟩:=merges (H:=H) (T:=T) (g:=g) hn Ds0 hB hl hw c n 0 Ds (a:=0) (b:=2 * w) (by omega) (by omega) (by omega) (by omega) hk (fun q hq=>by omega) hab
   have hlen1:=hk1.len
   match z with
   |0=>omega
   |z+1=>
    have aw:a=(2 * i) * w:=by rw[ha,←Nat.mul_assoc,Ef i 2]
    have sA:=hab1 (2 * i) (by omega)
    have sB:=hab1 (2 * i+1) (by rw[BQ];omega)
    rw[←aw] at sA;rw[BQ,←aw] at sB;by_cases c2:a+w<n
    ·rw[RA (by omega)] at sB
     have e:Ds1=Ds1.take a++seg Ds1 a w++Ds1.drop (a+w)++[]:=by
      unfold seg;rw[Az,AP];have:(Ds1.drop a).take w++Ds1.drop (a+w)=Ds1.drop a:=by rw[←Co,BK]
      rw[this,BK]
     have lP:(Ds1.take a).length=a:=by rw[Ba];omega
     have lA:(seg Ds1 a w).length=w:=by unfold seg;rw[Ba,AU];omega
     have lB:(Ds1.drop (a+w)).length=n - (a+w):=by rw[AU];omega
     generalize Ds1.take a=P at *;generalize seg Ds1 a w=A at *;generalize Ds1.drop (a+w)=B at *;subst e;obtain⟨R,hE,hS⟩:=yB (H:=H) (T:=T) (g:=g) hn _ P A B [] (a:=a) (m:=a+w) (b:=n) (Ag _) (fun h=>by rw[h] at lA;simp at lA;omega) (fun h=>by rw[h] at lB;simp at lB;omega) (by omega) (by omega) (by omega) sA sB (hk1.bd hB) (by omega)
     have lR:=hS.len;simp only[Af] at lR;have hk2:Kq Ds0 (P++R++[]):=hk1.trans (by have:=hS.kp.mid (P:=P) (Q:=[]);simpa using this)
     have hs2:Bl (2 * w) a (P++R++[]):=fun q hq=>by
      have:=hs1 q hq;rw[show P++A++B++[]=P++(A++B)++[] by simp,OW (by omega)] at this
      rw[OW (by omega)];exact this
     have hu:Ab (2 * w) 0 (P++R++[]):=hs2.up ha (by simp;omega) (by rw[Az,←lP,List.drop_left];exact hS.asc)
     obtain⟨Ds',x1,x2,x3,hL2,f⟩:=grow hn Ds0 hB hl z (P++R++[]) (w:=w * 2) (m2:=a) (m3:=b) (by omega) (by omega) hk2 (by rw[Ef];exact hu)
     exact⟨Ds',x1,x2,x3,Vk (by omega) (by omega) hL (by omega) (by omega) (by omega) hE (by omega) hL2,f⟩
    ·have hu:Ab (2 * w) 0 Ds1:=hs1.up ha (by omega) (by rw[RA (by omega)] at sA;exact sA)
     obtain⟨Ds',x1,x2,x3,hL2,f⟩:=grow hn Ds0 hB hl z Ds1 (w:=w * 2) (m2:=a) (m3:=b) (by omega) (by omega) hk1 (by rw[Ef];exact hu)
     exact⟨Ds',x1,x2,x3,Vj (by omega) (by omega) hL (by omega) (by omega) (by omega) (by omega) hL2,f⟩
  ·refine⟨Ds,w,m2,m3,Yh (by omega),?_,hk.perm,hk.keep⟩
   have:=hab 0 (by omega)
   rw[Nat.zero_mul,RA (by omega)] at this;exact this
theorem e99{Ds:List Dg}(hn:Ds.length<1000000000)(hB:Bd Ds):∃R,E 222 [.arr H.length g 0 Ds.length 5,fnc] (aS H T g Ds) (.tuple []) (aS H T g R)∧Sd Ds R:=by
 obtain⟨Ds1,i,a,b,hL,ha,han,hna,hk,hs⟩:=Ra (H:=H) (T:=T) (g:=g) hn Ds hB rfl Ds.length 0 Ds (a:=0) (b:=20) (by omega) (by omega) (by omega) (by omega) (Kq.refl _) (fun q hq=>by omega)
 have hlen:=hk.len;have e:Ds1=Ds1.take a++Ds1.drop a++[]:=by simp
 have lP:(Ds1.take a).length=a:=by rw[Ba];omega
 have lL:(Ds1.drop a).length=Ds.length - a:=by rw[AU];omega
 generalize Ds1.take a=P at *;generalize Ds1.drop a=L at *;subst e;obtain⟨R,hE,hS⟩:=Bx2 (H:=H) (T:=T) (g:=g) (n:=Ds.length) hn (P:=P) (L:=L) (Q:=[]) (a:=a) (b:=Ds.length) (by omega) (by omega) ((hk.bd hB).mono fun d hd=>by simp[hd]) (by omega)
 have lR:=hS.len
 have hs2:Bl 20 a (P++R++[]):=fun q hq=>by
  have:=hs q hq;rw[OW (by omega)] at this ⊢;exact this
 have hu:Ab 20 0 (P++R++[]):=hs2.up ha (by simp;omega) (by rw[Az,←lP,List.drop_left];exact hS.asc)
 obtain⟨Ds',x1,x2,x3,hL2,f⟩:=grow (H:=H) (T:=T) (g:=g) hn Ds hB rfl Ds.length (P++R++[]) (w:=20) (m2:=a) (m3:=b) (by omega) (by omega) (hk.trans hS.kp.mid) hu
 exact⟨Ds',r99 (BjM hL hE hL2),f⟩
end
end Go.Abs.Z

namespace Go.Abs.Z
open Go.Proofs Go.RowKit
def Mg(w:List UInt8):Bool:=decide (w≠[])&&(decide (w.length≤9)&&decide (w.length≤Dc diB w))
def IL(s:List UInt8)(t:Tk):Nat:=if t.k=4 then 1 else if t.k=2 then(if Mg (wd s t) then 0 else 2) else if t.k=0∧16<(wd s t).length then 3 else 0
def H8(s:List UInt8):List Tk→List Dg
 |[]=>[]
 |t::l=>if IL s t=0 then H8 s l else⟨IL s t,t.a,t.e,[]⟩::H8 s l
theorem Pq(s:List UInt8):∀l l':List Tk,H8 s (l++l')=H8 s l++H8 s l'
 |[],_=>rfl
 |t::l,l'=>by
  rw[BI,H8,H8];split
  ·exact Pq s l l'
  ·rw[Pq s l l'];rfl
theorem MM(s:List UInt8):∀l:List Tk,(H8 s l).length≤l.length
 |[]=>Ag _
 |t::l=>by
  have:=MM s l;rw[H8];split<;>simp<;>omega
theorem n98(w:List UInt8)(hw:w.length≤9):∀(n j:Nat) (z:Int),j+n=w.length→∃z',LL mK 0 [(4,some (I z)),(22,some (.slice false 1 (w.map by8))),(23,some (N w.length)),(24,some (N j))] [] (.exit 0) [(4,some (I z')),(22,some (.slice false 1 (w.map by8)))] []
 |0,j,z,h=>⟨z,ZZ (by omega)⟩
 |n+1,j,z,h=>by
  obtain⟨z',h'⟩:=n98 w hw n (j+1) _ (by omega)
  exact⟨z',Xd (by omega) (Ah (by omega)) rfl rfl rfl rfl (by omega) h'⟩
theorem e98(w:List UInt8)(hl:w.length<1000000):∃z,E 221 [.str w] [] (.tuple [I z,.bool (Mg w)]) []:=by
 by_cases h1:w=[]
 ·exact⟨0,by subst h1;exact AJ1 rfl⟩
 ·by_cases h2:9<w.length
  ·have:Mg w=false:=by simp[Mg];omega
   rw[this];exact⟨0,AJ0 h1 (by omega)⟩
  ·have a1:=yC diB rfl sZ w hl 0 (by omega)
   rw[List.drop_zero,Bq] at a1;by_cases h3:Dc diB w<w.length
   ·have:Mg w=false:=by simp[Mg];omega
    rw[this];exact⟨0,AZZ h1 (by omega) a1 (by omega)⟩
   ·have:Mg w=true:=by simp[Mg];exact⟨h1,by omega,by omega⟩
    rw[this];obtain⟨z,hz⟩:=n98 w (by omega) w.length 0 0 (by omega)
    exact⟨z,AZY h1 (by omega) a1 (by omega) hz⟩
def lxH(D:List Dg):PV:=match D with | []=>.nils | _::D=>.arr 1 D.length 0 (D.length+1) 5
def lxS(D:List Dg):Sto:=match D with | []=>[] | d::D=>[[.arrv D.length 5 ((d::D).map Dg.pv)]]
theorem Hy(D:List Dg):Hv (lxH D):=by cases D<;>first | exact .nil | exact .arr ..
theorem q8{X:List PV}(D:List Dg)(d:Dg)(h:D.length<100000):Bh pur run (.w (.Gf 5)) [lxH D,.slice true 5 [d.pv]] (X::lxS D) [some (lxH (D++[d]))] (X::lxS (D++[d])):=by
 cases D with
 |nil=>exact UA (T:=[]) rfl
 |cons e D=>
  have h0:=UB (X:=X) (B:=[]) (g:=D.length) (n:=D.length+1) (Ds:=(e::D).map Dg.pv) (o:=true) (d:=d.pv) rfl (by simp) (by simp[Bn] at h ⊢;omega)
  have e1:lxH (e::D++[d])=.arr 1 (D.length+1) 0 (D.length+1+1) 5:=by
   show PV.arr 1 (D++[d]).length 0 ((D++[d]).length+1) 5=_;simp
  have e2:lxS (e::D++[d])=[[.arrv (D.length+1) 5 ((e::D).map Dg.pv++[d.pv])]]:=by
   show[[PV.arrv (D++[d]).length 5 ((e::(D++[d])).map Dg.pv)]]=_;simp
  rw[e1,e2];exact h0
theorem AZQ(s:List UInt8)(hs:s.length≤4096)(all:List Tk)(ha:all.length≤5000):∀(rest done:List Tk),all=done++rest→(∀t∈rest,t.a≤t.e∧t.e≤s.length) → 
  LL NL 0 [(0,some (.str s)),(7,some (.ref 0 0)),(8,some (lxH (H8 s done))),(26,some (.slice false 4 (all.map Tk.pv))),(27,some (N all.length)),(28,some (N done.length))] (q0 s (Bw 4 ((good done).map Tk.pv))::lxS (H8 s done)) (.exit 0)
   [(0,some (.str s)),(7,some (.ref 0 0)),(8,some (lxH (H8 s all))),(26,some (.slice false 4 (all.map Tk.pv)))] (q0 s (Bw 4 ((good all).map Tk.pv))::lxS (H8 s all))
 |[],done,e,_=>by
  rw[Az] at e;subst e;exact aA (Hy _) (by omega)
 |t::rest,done,e,hr=>by
  have hlen:all.length=done.length+(rest.length+1):=by rw[e];simp
  have ih:=AZQ s hs all ha rest (done++[t]) (by rw[e];simp) (fun u hu=>hr u (by simp[hu]))
  have g1:all[done.length]?=some t:=by rw[e];simp
  obtain⟨h1,h2⟩:=hr t (by simp)
  have x1:Be (.ssl true true) [.str s,N t.a,N t.e]=some [some (.str (wd s t))]:=NU s t.a t.e h1 h2;have hw:(wd s t).length≤s.length:=by simp only[wd,Ba,AU];omega
  rw[Af,DV] at ih;have hl:(H8 s done).length≤done.length:=MM s done
  have eL:H8 s (done++[t])=if IL s t=0 then H8 s done else H8 s done++[⟨IL s t,t.a,t.e,[]⟩]:=by
   rw[Pq];simp only[H8];split<;>simp
  have eG:good (done++[t])=if t.k=4 then good done else good done++[t]:=by
   unfold good;rw[CL];by_cases h:t.k=4
   ·simp[h]
   ·simp[h]
  have gl:(good done).length≤done.length:=Dv _ _;have hm:((good done).map Tk.pv).length+1≤Bn:=by rw[Aq];unfold Bn;omega
  rw[eL,eG] at ih;by_cases c4:t.k=4
  ·have hc:IL s t=1:=by simp[IL,c4]
   rw[hc,if_neg (by decide),if_pos c4] at ih
   exact Xv (Hy _) (by omega) g1 x1 (by omega) (Hy _) (q8 _ ⟨1,t.a,t.e,[]⟩ (by omega)) (by omega) ih
  ·rw[if_neg c4,Ca,List.map_singleton] at ih;by_cases c2:t.k=2
   ·obtain⟨z,hz⟩:=e98 (wd s t) (by omega)
    cases hn:Mg (wd s t) with
    |true=>
     have hc:IL s t=0:=by simp[IL,c2,hn]
     rw[hc,if_pos rfl] at ih;rw[hn] at hz;exact Xu (Hy _) (by omega) g1 x1 (by omega) (by omega) hz hm (by omega) ih
    |false=>
     have hc:IL s t=2:=by simp[IL,c2,hn]
     rw[hc,if_neg (by decide)] at ih
     rw[hn] at hz;exact Xt (Hy _) (by omega) g1 x1 (by omega) (by omega) hz (Hy _) (q8 _ ⟨2,t.a,t.e,[]⟩ (by omega)) hm (by omega) ih
   ·by_cases c0:t.k=0
    ·by_cases cl:16<(wd s t).length
     ·have hc:IL s t=3:=by simp[IL,c0,cl]
      rw[hc,if_neg (by decide)] at ih
      exact Xq (Hy _) (by omega) g1 x1 (by omega) (by omega) (by omega) (by omega) (Hy _) (q8 _ ⟨3,t.a,t.e,[]⟩ (by omega)) hm (by omega) ih
     ·have hc:IL s t=0:=by simp[IL,c0,cl]
      rw[hc,if_pos rfl] at ih;exact Xp (Hy _) (by omega) g1 x1 (by omega) (by omega) (by omega) (by omega) hm (by omega) ih
    ·have hc:IL s t=0:=by simp[IL,c0,c2,c4]
     rw[hc,if_pos rfl] at ih;exact Xr (Hy _) (by omega) g1 x1 (by omega) (by omega) (by omega) hm (by omega) ih
def FX(s:List UInt8):List Dg:=H8 s (EQ s)
theorem e46(s:List UInt8)(hs:s.length≤4096):E 151 [.str s] [] (.tuple [.ref 0 0,lxH (FX s),I 0]) (PS4 s (Ch s) (lxS (FX s)) 0 []):=by
 have hl:(EQ s).length≤s.length+1:=IA (s.length+1) s 0;have hw:=(JZ s (s.length+1) 0 (by omega) (by omega)).wf
 have h:=AZQ s hs (EQ s) (by omega) (EQ s) [] rfl (fun t ht=>⟨(hw t ht).1.ord.1,(hw t ht).1.ord.2.1⟩)
 have hT:=(JI s).len
 have e:q0 s (Bw 4 ((Ch s).map Tk.pv))=pc s (Ch s) 0 0 .nils (-1):=by
  cases hg:Ch s with
  |nil=>rw[hg] at hT;cases hT
  |cons t ts=>rfl
 have h2:=AV3 (e97 s hs) rfl (Hy _) h
 have e3:PS4 s (Ch s) (lxS (FX s)) 0 []=pc s (Ch s) 0 0 .nils (-1)::lxS (FX s):=by
  show pc s (Ch s) 0 0 .nils (-1)::(lxS (FX s)++[])=_;rw[Az]
 rw[e3,←e];exact h2
end Go.Abs.Z

namespace Go.Abs.Z
open Go.Proofs Go.RowKit
def dgA(ls:List Tk)(d:AD):Dg:=⟨d.c,tA ls d.i,tE ls d.i,d.t⟩
def dgs(ls:List Tk)(D:List AD):List Dg:=D.map (dgA ls)
theorem tF(ls:List Tk)(D:List AD):(dgs ls D).map Dg.pv=D.map (dgp ls):=by simp[dgs,dgp,dgA,Function.comp_def]
theorem SI(Ds:List Dg):(Ds.map Dg.pv).map PV.Ae=Ds.map Dg.pv∧(Ds.map Dg.pv).all PV.ones=true∧(Ds.map Dg.pv).all PV.okc=true∧(Ds.map Dg.pv).all (fun e=>e.flat&&e.cells.all PV.flat)=true:=by
 induction Ds with
 |nil=>exact⟨rfl,rfl,rfl,rfl⟩
 |cons d Ds ih=>
  obtain⟨a,b,c,e⟩:=ih;refine⟨?_,?_,?_,?_⟩
  ·rw[Bv,Bv,a];rfl
  ·rw[Bv,Dr,b];rfl
  ·rw[Bv,Dr,c];rfl
  ·rw[Bv,Dr,e];rfl
theorem O3{H T:Sto}{g:Nat}{Ds:List Dg}:KR (aS H T g Ds) H.length g 0 Ds.length 5=some (Ds.map Dg.pv):=by
 have:(Ds.map Dg.pv).take Ds.length=Ds.map Dg.pv:=CS (by simp)
 unfold KR;simp[iq,JH,this]
theorem dQ{σ:Sto}{id g n:Nat}{es xs:List PV}(h:KR σ id g 0 n 5=some es):Gf 5 (.arr id g 0 n 5) xs σ=(if xs.isEmpty then some ([some (.arr id g 0 n 5)],σ)
  else if n+xs.length≤Bn∧xs.all PV.ones∧xs.all PV.okc then some ([some (.arr id (g+1) 0 (n+xs.length) 5)],σ.set id [.arrv (g+1) 5 (es++xs.map PV.Ae)]) else none):=by
 simp only[Gf,if_true,h]
theorem dP(σ:Sto):Bh pur run (.w (.Gf 5)) [.nils,.nils] σ [some .nils] σ:=⟨0,fun _ _=>rfl⟩
theorem uj{σ:Sto}{H T:Sto}{g:Nat}{Ds:List Dg}(he:σ=aS H T g Ds)(hne:Ds≠[])(hl:Ds.length<1000000):Bh pur run (.w (.Gf 5)) [.nils,.arr H.length g 0 Ds.length 5] σ [some (.arr σ.length 0 0 Ds.length 5)] (aS σ [] 0 Ds):=by
 obtain⟨a,b,c,_⟩:=SI Ds
 have hr:Kn 5 σ (.arr H.length g 0 Ds.length 5)=some (Ds.map Dg.pv):=by
  show(if 5=5 then KR σ H.length g 0 Ds.length 5 else none)=_
  rw[if_pos rfl,he,O3]
 refine⟨0,fun n _=>?_⟩
 show(match Kn 5 σ (.arr H.length g 0 Ds.length 5) with | some xs=>Gf 5 .nils xs σ | none=>none)=_
 rw[hr];show(if _ then _ else _)=_
 rw[if_neg (by cases Ds<;>simp at hne ⊢),if_pos ⟨by rw[Aq];unfold Bn;omega,b,c⟩,a,Aq]
 rfl
theorem ui{H T:Sto}{g:Nat}{Ds:List Dg}:Bh pur run (.w (.Gf 5)) [.arr H.length g 0 Ds.length 5,.nils] (aS H T g Ds) [some (.arr H.length g 0 Ds.length 5)] (aS H T g Ds):=by
 refine⟨0,fun n _=>?_⟩
 show Gf 5 (.arr H.length g 0 Ds.length 5) [] (aS H T g Ds)=_;rw[dQ O3];rfl
theorem mH{σ:Sto}{H T H' T':Sto}{g g':Nat}{Ds Es:List Dg}(he:σ=aS H T g Ds)(he':σ=aS H' T' g' Es)(hne:Es≠[])(hl:Ds.length+Es.length<1000000):
  Bh pur run (.w (.Gf 5)) [.arr H.length g 0 Ds.length 5,.arr H'.length g' 0 Es.length 5] σ [some (.arr H.length (g+1) 0 (Ds++Es).length 5)] (aS H T (g+1) (Ds++Es)):=by
 obtain⟨a,b,c,_⟩:=SI Es
 have hr:Kn 5 σ (.arr H'.length g' 0 Es.length 5)=some (Es.map Dg.pv):=by
  show(if 5=5 then KR σ H'.length g' 0 Es.length 5 else none)=_
  rw[if_pos rfl,he',O3]
 refine⟨0,fun n _=>?_⟩
 show(match Kn 5 σ (.arr H'.length g' 0 Es.length 5) with | some xs=>Gf 5 (.arr H.length g 0 Ds.length 5) xs σ | none=>none)=_
 rw[hr,he];show Gf 5 (.arr H.length g 0 Ds.length 5) (Es.map Dg.pv) (aS H T g Ds)=_;rw[dQ O3,if_neg (by cases Es<;>simp at hne ⊢),if_pos ⟨by rw[Aq];unfold Bn;omega,b,c⟩,a,uq,Aq,Af]
 unfold aS;rw[Ca]
theorem AwU{H T:Sto}{g:Nat}{Ds:List Dg}:Bh pur run (.w .frz) [.arr H.length g 0 Ds.length 5] (aS H T g Ds) [some (.slice false 5 (Ds.map Dg.pv))] ((aS H T g Ds).set H.length [.dead]):=by
 obtain⟨_,_,_,d⟩:=SI Ds;refine⟨0,fun n _=>?_⟩
 show(match KR (aS H T g Ds) H.length g 0 Ds.length 5 with
  |some es=>if es.all (fun e=>e.flat&&e.cells.all PV.flat) then some ([some (PV.slice false 5 es)],(aS H T g Ds).set H.length [.dead]) else none
  |none=>none)=_
 rw[O3];show(if _ then _ else _)=_
 rw[if_pos d]
theorem jN(σ:Sto):Bh pur run (.w .frz) [.nils] σ [some .nils] σ:=⟨0,fun _ _=>rfl⟩
theorem BqY(σ:Sto):E 222 [.nils,.func 223 [] []] σ (.tuple []) σ:=
 BjB (AW8 (n:=0) (Vh (m1:=0) (m2:=20) (by omega)) (AW6 (a:=0) (b:=0) (by omega) (Vd (by omega))) (Vg (m1:=20) (by omega)))
theorem AWO(X:List PV)(d:Dg)(LX:List Dg)(T:Sto):X::(lxS (d::LX)++T)=aS [X] T LX.length (d::LX):=rfl
theorem AxR(X:List PV)(ls:List Tk)(B:Sto)(d:AD)(D:List AD):X::(B++arS ls (d::D))=aS (X::B) [] D.length (dgs ls (d::D)):=by
 unfold aS;rw[tF];rfl
theorem BvE{X:List PV}{ls:List Tk}{LX:List Dg}{Bx:Sto}{D:List AD}(h1:LX.length<100000)(h2:D.length<100000):
  ∃h σ1,Bh pur run (.w (.Gf 5)) [lxH LX,wrP ((lxS LX++Bx).length+1) D] (X::((lxS LX++Bx)++arS ls D)) [some h] σ1∧
   ((h=.nils∧LX++dgs ls D=[])∨∃H T g,h=.arr H.length g 0 (LX++dgs ls D).length 5∧σ1=aS H T g (LX++dgs ls D)):=by
 have hlen:(dgs ls D).length=D.length:=by simp[dgs]
 cases LX with
 |nil=>cases D with
  |nil=>exact⟨_,_,dP _,.inl ⟨rfl,rfl⟩⟩
  |cons d D=>
   have h:=uj (σ:=X::(Bx++arS ls (d::D))) (AxR X ls Bx d D) (by simp[dgs]) (by omega)
   have e:wrP ((lxS []++Bx).length+1) (d::D)=.arr (X::Bx).length D.length 0 (dgs ls (d::D)).length 5:=by rw[hlen];rfl
   rw[e];exact⟨_,_,h,.inr ⟨_,_,_,rfl,rfl⟩⟩
 |cons e LX=>
  cases D with
  |nil=>
   have h:=ui (H:=[X]) (T:=Bx) (g:=LX.length) (Ds:=e::LX);refine⟨_,_,?_,.inr ⟨[X],Bx,LX.length,by rw[show dgs ls []=[] from rfl,Az],by rw[show dgs ls []=[] from rfl,Az]⟩⟩
   rw[show arS ls []=[] from rfl,Az]
   exact h
  |cons d D=>
   have h:=mH (σ:=X::((lxS (e::LX)++Bx)++arS ls (d::D))) (H:=[X]) (T:=Bx++arS ls (d::D)) (g:=LX.length) (Ds:=e::LX) (by rw[AP,AWO]) (AxR X ls (lxS (e::LX)++Bx) d D) (by simp[dgs]) (by omega)
   have e':wrP ((lxS (e::LX)++Bx).length+1) (d::D)=.arr (X::(lxS (e::LX)++Bx)).length D.length 0 (dgs ls (d::D)).length 5:=by rw[hlen];rfl
   rw[e'];exact⟨_,_,h,.inr ⟨_,_,_,rfl,rfl⟩⟩
theorem Oe(q:Nat)(D:List AD):Hv (wrP q D):=by cases D<;>first | exact .nil | exact .arr ..
theorem e48{s:List UInt8}{ls:List Tk}{k l:Nat}{bf:Int}{LX:List Dg}{Bx:Sto}{D:List AD}(h1:LX.length<100000)(h2:D.length<100000)(hb:Bd (LX++dgs ls D)):
  ∃R σ,Sd (LX++dgs ls D) R∧E 153 [.ref 0 0,lxH LX] (pc s ls k l (wrP ((lxS LX++Bx).length+1) D) bf::((lxS LX++Bx)++arS ls D)) (BG 5 (R.map Dg.pv)) σ:=by
 obtain⟨h,σ1,hA,hh⟩:=BvE (X:=pc s ls k l (wrP ((lxS LX++Bx).length+1) D) bf) (ls:=ls) (Bx:=Bx) h1 h2;rcases hh with⟨rfl,he⟩ | ⟨H,T,g,rfl,rfl⟩
 ·exact⟨[],σ1,by rw[he];exact Sd.refl List.Pairwise.nil,r48 (Hy _) (Oe _ _) .nil hA (BqY _) (jN _)⟩
 ·have hlen:(dgs ls D).length=D.length:=by simp[dgs]
  obtain⟨R,hE,hS⟩:=e99 (H:=H) (T:=T) (g:=g) (Ds:=LX++dgs ls D) (by rw[Af];omega) hb
  have hf:=AwU (H:=H) (T:=T) (g:=g) (Ds:=R);rw[hS.len] at hf;have e:BG 5 (R.map Dg.pv)=if R=[] then .nils else .slice false 5 (R.map Dg.pv):=by cases R<;>rfl
  by_cases hR:R=[]
  ·
   subst hR;have h0:=hS.len;simp only[Bo] at h0;have h0':LX++dgs ls D=[]:=Aw.1 h0.symm;obtain⟨rfl,h3⟩:=List.append_eq_nil_iff.1 h0';have:D=[]:=Aw.1 (by rw[←hlen,h3];rfl)
   subst this;exact⟨[],_,Sd.refl List.Pairwise.nil,r48 (Hy []) (Oe _ []) .nil (dP _) (BqY _) (jN _)⟩
  ·refine⟨R,(aS H T g R).set H.length [.dead],hS,r48 (Hy _) (Oe _ _) (.arr ..) hA hE ?_⟩
   rw[e,if_neg hR];exact hf
def MV(w:Nat→Wd)(k:Nat)(D:List AD):List AD:=if(w k).1=5 then D else D++[⟨4,k,UK⟩]
theorem apW{X:List PV}{ls:List Tk}{B:Sto}(D:List AD)(d:AD)(h:D.length<100000):Bh pur run (.w (.Gf 5)) [wrP (B.length+1) D,.slice true 5 [dgp ls d]] (X::(B++arS ls D)) [some (wrP (B.length+1) (D++[d]))] (X::(B++arS ls (D++[d]))):=by
 obtain⟨e1,e2⟩:=je (ls:=ls) D d;rw[e1,e2];cases D with
 |nil=>
  have:=UA (X:=X) (T:=B) (o:=true) (d:=dgp ls d) rfl;simpa [arS,wrP] using this
 |cons e D=>exact UB (X:=X) (B:=B) (g:=D.length) (n:=D.length+1) (Ds:=(e::D).map (dgp ls)) (o:=true) (d:=dgp ls d) rfl (by simp) (by simp[Bn] at h ⊢;omega)
theorem Bk7{s:List UInt8}{ls:List Tk}{B:Sto}{k:Nat}{D:List AD}:Fq (.ld 1 false) [.ref 0 4] (PS4 s ls B k D)=some [some (wrP (B.length+1) D)]:=ldW (Oe _ _)
theorem AQY{s:List UInt8}{ls:List Tk}{m:Nat}(H:CG s ls m){D:List AD}(hD:∀d∈D,d.i≤m):Bd (dgs ls D):=by
 intro x hx;obtain⟨d,hd,rfl⟩:=EG.1 hx;obtain⟨t,ht⟩:=H.at (hD d hd);have h1:=H.ord _ _ ht;have h2:=H.small;show tA ls d.i<_;rw[JY ht];omega
theorem AQX{s:List UInt8}(hs:s.length≤4096):Bd (FX s):=by
 have hw:=(JZ s (s.length+1) 0 (by omega) (by omega)).wf
 have:∀l:List Tk,(∀t∈l,t.a≤4096)→Bd (H8 s l):=by
  intro l
  induction l with
  |nil=>intro _ x hx;cases hx
  |cons t l ih=>
   intro h x hx;rw[H8] at hx
   split at hx
   ·exact ih (fun u hu=>h u (by simp[hu])) x hx
   ·rcases AY.1 hx with rfl | hx
    ·have:=h t (by simp);show t.a<_;omega
    ·exact ih (fun u hu=>h u (by simp[hu])) x hx
 exact this _ fun t ht=>by have:=(hw t ht).1.ord;omega
theorem Dok.small{k:Nat}{D:List AD}(h:Dok k D):D.length≤k+1:=by
 have:∀(D:List AD) (k j:Nat),D.Pairwise (fun a b=>a.i<b.i)→(∀d∈D,j≤d.i∧d.i≤k)→D.length+j≤k+1∨D=[]:=by
  intro D
  induction D with
  |nil=>intro _ _ _ _;exact .inr rfl
  |cons d D ih=>
   intro k j hp hd;have hp':=BR.1 hp;have h0:=hd d (by simp)
   refine .inl ?_
   rcases ih k (d.i+1) hp'.2 (fun e he=>⟨hp'.1 e he,(hd e (by simp[he])).2⟩) with h | h
   ·simp;omega
   ·subst h;simp;omega
 rcases this D k 0 h.1 (fun d hd=>⟨CR _,h.2 d hd⟩) with h | h
 ·omega
 ·subst h;simp
theorem e22{s:List UInt8}(hs:s.length≤4096){g:FuncId}(pg:pur g=false){U:Tr}{Bx:Sto}{k:Nat}{D:List AD}
  (hg:E g [.ref 0 0] (PS4 s (Ch s) (lxS (FX s)) 0 []) U.pv (PS4 s (Ch s) (lxS (FX s)++Bx) k D)) (hk:k≤(Ch s).length - 1) (hD:Dok k D) :
  ∃R σ,Sd (FX s++dgs (Ch s) (MV (wAt s (Ch s)) k D)) R∧E 115 [.str s,.func g [] []] [] (.tuple [U.pv,BG 5 (R.map Dg.pv),I 0]) σ:=by
 have H:=JI s;have hsc:(EQ s).length≤s.length+1:=IA (s.length+1) s 0;have hm:(Ch s).length≤s.length+1:=Bf (Dv _ _) hsc;have hlx:(FX s).length<100000:=Nat.lt_of_le_of_lt (MM s _) (by omega)
 obtain⟨t,ht⟩:=H.at hk;have h47:=p9 (B:=lxS (FX s)++Bx) (D:=D) H hk ht;have hw:=Jw (s:=s) ht;have hDl:=hD.small
 have hb:∀D':List AD,(∀d∈D',d.i≤k)→Bd (FX s++dgs (Ch s) D'):=fun D' h x hx=>by
  rcases Cm.1 hx with hx | hx
  ·exact AQX hs x hx
  ·exact AQY H (fun d hd=>Bf (h d hd) hk) x hx
 by_cases h5:t.k=5
 ·have e:MV (wAt s (Ch s)) k D=D:=by unfold MV;rw[hw,if_pos h5]
  rw[e];obtain⟨R,σ,hS,hE⟩:=e48 (s:=s) (ls:=Ch s) (k:=k) (l:=en (Ch s) k) (bf:=bfP (Ch s) D) (Bx:=Bx) (D:=D) hlx (by omega) (hb D hD.2)
  exact⟨R,σ,hS,AVZ (Hy _) (e46 s hs) rfl pg hg h47 (by omega) hE⟩
 ·have e:MV (wAt s (Ch s)) k D=D++[⟨4,k,UK⟩]:=by unfold MV;rw[hw,if_neg h5]
  rw[e]
  obtain⟨R,σ,hS,hE⟩:=e48 (s:=s) (ls:=Ch s) (k:=k) (l:=en (Ch s) k) (bf:=bfP (Ch s) D) (Bx:=Bx) (D:=D++[⟨4,k,UK⟩]) hlx (by simp;omega) (hb _ fun d hd=>by
   rcases Cm.1 hd with hd | hd
   ·exact hD.2 d hd
   ·rw[CK] at hd;subst hd;exact Ag _)
  have hp:=apW (X:=pc s (Ch s) k (en (Ch s) k) (wrP ((lxS (FX s)++Bx).length+1) D) (bfP (Ch s) D)) (ls:=Ch s) (B:=lxS (FX s)++Bx) D ⟨4,k,UK⟩ (by omega)
  have ed:dgp (Ch s) ⟨4,k,UK⟩=.agg [I 4,N t.a,N t.e,.str UK,.nils]:=by
   show(Dg.mk 4 (tA _ k) (tE _ k) UK).pv=_;rw[JY ht,QM ht];rfl
  rw[ed] at hp;have hst:=stW (s:=s) (ls:=Ch s) (k:=k) (l:=en (Ch s) k) (wr:=wrP ((lxS (FX s)++Bx).length+1) D) (b:=bfP (Ch s) D) (T:=(lxS (FX s)++Bx)++arS (Ch s) (D++[⟨4,k,UK⟩])) (iC _ _) (v:=wrP ((lxS (FX s)++Bx).length+1) (D++[⟨4,k,UK⟩])) (by rcases Oe ((lxS (FX s)++Bx).length+1) (D++[⟨4,k,UK⟩]) with h | ⟨_,_,_,_,_,h⟩<;>rw[h]<;>exact⟨rfl,rfl,rfl,rfl⟩)
  exact⟨R,σ,hS,AW4 (Hy _) (e46 s hs) rfl pg hg h47 (by omega) (Oe _ _) Bk7 (Oe _ _) hp hst hE⟩
def prT(s:List UInt8)(ls:List Tk)(acc:List AT):Tr:=.mk 2 [] 0 (s.length:Nat) acc.isEmpty (EP ls acc)
theorem e8{s:List UInt8}(hs:s.length≤4096){n:Nat}(hn:n≤IM){v:Rs}{k:Nat}{D:List AD}(h:runN (wAt s (Ch s)) n (.pg []) 0 []=some (v,k,D)):
  ∃R,Sd (FX s++dgs (Ch s) (MV (wAt s (Ch s)) k D)) R∧E 58 [.str s] [] (.tuple [(prT s (Ch s) v.2).pv,BG 5 (R.map Dg.pv),I 0]) []:=by
 have H:=JI s;obtain⟨ok,ev⟩:=AWL (B:=lxS (FX s)++[[.ref 0 0]]) H n hn;have hD0:Dok 0 []:=⟨List.Pairwise.nil,fun d h=>by cases h⟩
 have hL:=ev _ _ _ _ _ _ h (CR _) hD0 (by simp;omega) (lxS (FX s)) (fun k D=>by
  show Fq (.ld 1 false) [.ref ((lxS (FX s)).length+1) 0] (pc s (Ch s) k (en (Ch s) k) _ _::((lxS (FX s)++[[.ref 0 0]])++arS (Ch s) D))=_;have:(pc s (Ch s) k (en (Ch s) k) (wrP ((lxS (FX s)++[[PV.ref 0 0]]).length+1) D) (bfP (Ch s) D)::((lxS (FX s)++[[PV.ref 0 0]])++arS (Ch s) D))[(lxS (FX s)).length+1]?=some [.ref 0 0]:=by simp
  simp only[Fq,this]
  rfl)
 obtain⟨o1,o2,o3⟩:=ok _ _ _ _ h (CR _) hD0
 have e0:PS4 s (Ch s) (lxS (FX s)) 0 []=pc s (Ch s) 0 0 .nils (-1)::lxS (FX s):=by
  show pc s (Ch s) 0 0 .nils (-1)::(lxS (FX s)++[])=_;rw[Az]
 have e1:PS4 s (Ch s) (lxS (FX s)++[[.ref 0 0]]) 0 []=pc s (Ch s) 0 0 .nils (-1)::(lxS (FX s)++[[.ref 0 0]]):=by
  show pc s (Ch s) 0 0 .nils (-1)::((lxS (FX s)++[[.ref 0 0]])++[])=_;rw[Az]
 rw[e1] at hL
 have h23:E 116 [.ref 0 0] (PS4 s (Ch s) (lxS (FX s)) 0 []) (prT s (Ch s) v.2).pv (PS4 s (Ch s) (lxS (FX s)++[[.ref 0 0]]) k D):=by
  rw[e0]
  have hx:Fq (.ld 1 false) [.ref ((lxS (FX s)).length+1) 0] (pc s (Ch s) 0 0 .nils (-1)::(lxS (FX s)++[[.ref 0 0]]))=some [some (.ref 0 0)]:=by
   have:(pc s (Ch s) 0 0 .nils (-1)::(lxS (FX s)++[[PV.ref 0 0]]))[(lxS (FX s)).length+1]?=some [.ref 0 0]:=by simp
   simp only[Fq,this];rfl
  have:=r23 hx hL
  have e2:(prT s (Ch s) v.2).pv=.agg [I 2,.str [],I 0,N s.length,BG 5 (Tr.pvs (EP (Ch s) v.2))]:=by
   unfold prT;cases v.2<;>rfl
  rw[e2];exact this
 obtain⟨R,σ,hS,hE⟩:=e22 hs (g:=116) (by rfl) h23 o2 o3
 exact⟨R,hS,r8 hE⟩
end Go.Abs.Z

namespace Go.Abs.Z
mutual

def Tr.ins:Tr→Prop
 |.mk _ _ st en _ ks=>OB st en ks
def OB:Int→Int→List Tr→Prop
 |_,_,[]=>True
 |a,e,x::xs=>a≤x.st∧x.st≤x.en∧x.en≤e∧x.ins∧OB x.en e xs
end
section
variable{s:List UInt8}{ls:List Tk}{m:Nat}
theorem jR(H:CG s ls m){k:Nat}(h:k≤m):en ls k≤tA ls k∧tA ls k≤en ls (k+1):=by
 obtain⟨t,ht⟩:=H.at h;refine⟨?_,?_⟩
 ·cases k with
  |zero=>exact CR _
  |succ k=>
   obtain⟨u,hu⟩:=H.at (k:=k) (by omega)
   show tE ls k≤_;rw[QM hu,JY ht];exact(H.inc _ _ _ _ hu ht (by omega)).2
 ·show _≤tE ls k;rw[QM ht,JY ht];exact(H.ord _ _ ht).1
theorem jS(H:CG s ls m){i:Nat}:∀n:Nat,i+n≤m+1→en ls i≤en ls (i+n)
 |0,_=>Ag _
 |n+1,h=>by
  have h1:=jS H (i:=i) n (by omega)
  have h2:=jR H (k:=i+n) (by omega)
  show en ls i≤en ls (i+n+1);omega
theorem jT(H:CG s ls m){i j:Nat}(h:i≤j)(hj:j≤m+1):en ls i≤en ls j:=by
 have:=jS H (i:=i) (j - i) (by omega)
 rwa [show i+(j - i)=j by omega] at this
theorem AQ2(H:CG s ls m):∀k,k≤m+1→en ls k≤s.length
 |0,_=>CR _
 |k+1,h=>by
  obtain⟨t,ht⟩:=H.at (k:=k) (by omega)
  show tE ls k≤_;rw[QM ht];exact(H.ord _ _ ht).2
mutual
theorem AZL(H:CG s ls m):∀x:AT,x.ok→x.lst≤m→((en ls x.fst:Nat):Int)≤(trP ls x).st∧(trP ls x).st≤(trP ls x).en∧(trP ls x).en=(en ls x.lst:Nat)∧(trP ls x).ins
 |.mk kd tx f k b ks,ho,hm=>by
  have h1:f≤k:=ho.1;have h3:oks f k ks:=ho.2.2;have hk:k≤m:=hm;have hp:=eB H ks f k h3 hk;have e1:=jT H h1 (by omega)
  have e2:=jR H (k:=f) (by omega)
  have own:((en ls f:Nat):Int)≤(if f<k then((tA ls f:Nat):Int) else(en ls k:Nat))∧(if f<k then((tA ls f:Nat):Int) else(en ls k:Nat))≤((en ls k:Nat):Int):=by
   split
   ·have:=jT H (i:=f+1) (j:=k) (by omega) (by omega)
    omega
   ·omega
  cases ks with
  |nil=>exact⟨own.1,own.2,rfl,trivial⟩
  |cons y ys=>
   obtain⟨q1,q2⟩:=hp;obtain⟨p1,p2⟩:=q1 (trP ls y) (EP ls ys) rfl;refine⟨?_,?_,rfl,q2 _ fun u us e=>?_⟩
   ·show((en ls f:Nat):Int)≤min _ (trP ls y).st;exact Int.le_min.2 ⟨own.1,p1⟩
   ·show min _ (trP ls y).st≤_;exact Int.le_trans (Int.min_le_left _ _) own.2
   ·cases e;exact Int.min_le_right _ _
theorem eB(H:CG s ls m):∀(xs:List AT) (lo hi:Nat),oks lo hi xs→hi≤m→(∀u us,EP ls xs=u::us→((en ls lo:Nat):Int)≤u.st∧u.st≤((en ls hi:Nat):Int))∧∀a:Int,(∀u us,EP ls xs=u::us→a≤u.st)→OB a (en ls hi:Nat) (EP ls xs)
 |[],_,_,_,_=>⟨fun u us h=>(by cases h),fun _ _=>trivial⟩
 |x::xs,lo,hi,h,hm=>by
  obtain⟨h1,h2,h3⟩:=h;have h4:=h3.le;have h5:=h2.le;obtain⟨p1,p2,p3,p4⟩:=AZL H x h2 (by omega)
  obtain⟨q1,q2⟩:=eB H xs x.lst hi h3 hm;have e1:=jT H (i:=lo) (j:=x.fst) h1 (by omega)
  have e2:=jT H (i:=x.lst) (j:=hi) h4 (by omega)
  refine⟨fun u us e=>?_,fun a ha=>⟨ha _ _ rfl,p2,by omega,p4,q2 _ fun u us e=>?_⟩⟩
  ·cases e;omega
  ·have:=(q1 u us e).1;omega
end
theorem AvY(H:CG s ls m){acc:List AT}{k:Nat}(h:oks 0 k acc)(hk:k≤m):(prT s ls acc).ins:=by
 obtain⟨q1,q2⟩:=eB H acc 0 k h hk;have h0:=q2 0 fun u us e=>(q1 u us e).1
 have hl:=AQ2 H k (by omega)
 have up:∀(xs:List Tr) (a e e':Int),e≤e'→OB a e xs→OB a e' xs:=by
  intro xs
  induction xs with
  |nil=>exact fun _ _ _ _ _=>trivial
  |cons x xs ih=>exact fun a e e' he h=>⟨h.1,h.2.1,by have:=h.2.2.1;omega,h.2.2.2.1,ih _ _ _ he h.2.2.2.2⟩
 exact up _ _ _ _ (by omega) h0
end
end Go.Abs.Z

namespace Go.Abs.Z
open Go.Proofs Go.RowKit
set_option linter.unusedVariables false
abbrev Str:=List UInt8
inductive Chn(n:Nat):Nat→List Tk→Prop
 |fin {f:Nat} (h:f≤n):Chn n f [⟨5,f,n,n⟩]
 |cons {f:Nat} {t:Tk} {l:List Tk} (hf:t.f=f) (h1:f≤t.a) (h2:t.a<t.e) (h3:t.e≤n) (hk:t.k<5) (h:Chn n t.e l):Chn n f (t::l)
theorem ZK(s:List UInt8):∀(n f:Nat),f≤s.length→s.length - f<n→Chn s.length f (J2 n (s.drop f) f)
 |0,f,_,h=>by omega
 |n+1,f,hf,h=>by
  have hk:=Mq false (s.drop f);rw[AU] at hk;rw[J2];by_cases he:(s.drop f).drop (skN false (s.drop f))=[]
  ·simp only[he,if_true];rw[Co,AZ] at he;have e:f+skN false (s.drop f)=s.length:=by omega
   rw[e];exact .fin hf
  ·simp only[he,if_false];rw[Co] at he;simp only[Co];obtain⟨w1,w2,w3,w4⟩:=nG (s:=s) (f:=f) (a:=f+skN false (s.drop f)) rfl he (by omega)
   have hlt:f+skN false (s.drop f) < s.length:=by omega
   have hm:s.length - (f+skN false (s.drop f)+(IP (s.drop (f+skN false (s.drop f)))).2) < n:=by omega
   exact .cons rfl (by simp) (by simp only;omega) w3 w4 (ZK s n _ w3 hm)
theorem Chn.bd{n f:Nat}{l:List Tk}(h:Chn n f l):∀t∈l,f≤t.a∧t.a≤t.e∧t.e≤n∧(t.k≠5→t.a<t.e)∧(t.k=5→t.a=n):=by
 induction h with
 |fin h=>intro t ht;rw[CK] at ht;subst ht;exact⟨h,Ag _,Ag _,fun h=>absurd rfl h,fun _=>rfl⟩
 |@cons f t l hf h1 h2 h3 hk h ih=>
  intro u hu;rcases AY.1 hu with rfl | hu
  ·exact⟨h1,by omega,h3,fun _=>h2,fun h=>by omega⟩
  ·obtain⟨q1,q2⟩:=ih u hu;exact⟨by omega,q2⟩
abbrev Srt(l:List Tk):Prop:=l.Pairwise fun t u=>t.e≤u.a∧t.a<u.a
theorem Chn.srt{n f:Nat}{l:List Tk}(h:Chn n f l):Srt l:=by
 induction h with
 |fin h=>exact CB _ _
 |@cons f t l hf h1 h2 h3 hk h ih=>
  refine BR.2 ⟨fun u hu=>?_,ih⟩
  have:=(h.bd u hu).1;omega
def pcT(s:Str)(t:Tk):Str:=(s.drop t.f).take (t.e - t.f)
theorem Chn.text{s:Str}{n f:Nat}{l:List Tk}(h:Chn n f l)(hn:n=s.length):l.flatMap (pcT s)=s.drop f:=by
 induction h with
 |@fin f h=>
  subst hn;show(s.drop f).take (s.length - f)++[]=_;rw[Az,CS (by simp)]
 |@cons f t l hf h1 h2 h3 hk h ih=>
  rw[Ex,ih];unfold pcT;rw[hf];have:s.drop t.e=(s.drop f).drop (t.e - f):=by rw[Co];congr 1;omega
  rw[this,BK]
def Cut(T:List Tk)(p:Int):Prop:=∀t∈T,(t.e:Int)≤p∨p≤t.a
mutual
def Tr.cuts(T:List Tk):Tr→Prop
 |.mk _ _ st en _ ks=>Cut T st∧Cut T en∧Me T ks
def Me(T:List Tk):List Tr→Prop
 |[]=>True
 |x::xs=>x.cuts T∧Me T xs
end
def inT(x:Tr)(t:Tk):Bool:=t.k != 5&&(decide (x.st≤(t.a:Nat))&&decide (((t.e:Nat):Int)≤x.en))
theorem Il{x:Tr}{t:Tk}:inT x t=true↔t.k≠5∧x.st≤(t.a:Nat)∧((t.e:Nat):Int)≤x.en:=by
 simp[inT,Ai,bne_iff_ne]
def bef:List (Int×Str)→Int→Str×List (Int×Str)
 |[],_=>([],[])
 |k::K,p=>if k.1<p then(k.2++(bef K p).1,(bef K p).2) else([],k::K)
def prN(s:Str):List Tk→List (Int×Str)→Str
 |[],K=>(bef K ((s.length:Nat)+1)).1
 |t::l,K=>(bef K (t.a:Nat)).1++(pcT s t++prN s l (bef K (t.a:Nat)).2)
theorem jh(s:Str):∀l:List Tk,prN s l []=l.flatMap (pcT s)
 |[]=>rfl
 |t::l=>by
  show[]++(pcT s t++prN s l [])=_;rw[jh s l];rfl
theorem Lm{k:Int×Str}{K:List (Int×Str)}{p:Int}(h:¬k.1<p):bef (k::K) p=([],k::K):=if_neg h
theorem Ur{k:Int×Str}{K:List (Int×Str)}{p:Int}(h:k.1<p):bef (k::K) p=(k.2++(bef K p).1,(bef K p).2):=if_pos h
theorem bq(s:Str){a:Int}:∀(l:List Tk) (K:List (Int×Str)),(∀k∈K,a≤k.1)→prN s l ((a,[])::K)=prN s l K
 |[],K,h=>by
  unfold prN;by_cases ha:a<(s.length:Nat)+1
  ·rw[Ur ha];rfl
  ·rw[Lm ha];cases K with
   |nil=>rfl
   |cons k K=>rw[Lm (by have:=h k (AR ..);omega)]
 |t::l,K,h=>by
  unfold prN;by_cases ha:a<(t.a:Nat)
  ·rw[Ur ha];rfl
  ·rw[Lm ha]
   have e:bef K (t.a:Nat)=([],K):=by
    cases K with
    |nil=>rfl
    |cons k K=>exact Lm (by have:=h k (AR ..);omega)
   rw[e];show[]++(pcT s t++prN s l ((a,[])::K))=[]++(pcT s t++prN s l K);rw[bq s l K h]
theorem VO(s:Str){k:Int×Str}{K:List (Int×Str)}:∀(l r:List Tk),(∀t∈l,¬k.1<(t.a:Nat))→prN s (l++r) (k::K)=l.flatMap (pcT s)++prN s r (k::K)
 |[],r,h=>rfl
 |t::l,r,h=>by
  show(bef (k::K) (t.a:Nat)).1++(pcT s t++prN s (l++r) (bef (k::K) (t.a:Nat)).2)=_;rw[Lm (h t (AR ..)),VO s l r fun u hu=>h u (AA _ hu),Ex]
  simp
theorem xz(s:Str){k:Int×Str}{K:List (Int×Str)}(hk:k.1<(s.length:Nat)+1):∀(r:List Tk),(∀t∈r,k.1<(t.a:Nat))→prN s r (k::K)=k.2++prN s r K
 |[],_=>by unfold prN;rw[Ur hk]
 |t::r,h=>by
  unfold prN;rw[Ur (h t (AR ..)),AP]
theorem WM{k:Tr}(hk:k.st≤k.en):∀(S:List Tk),Srt S→(∀t∈S,t.a≤t.e)→(∀t∈S,((t.e:Nat):Int)≤k.st∨inT k t=true∨k.en≤(t.a:Nat))→(∀t∈S,inT k t=true→t.a<t.e)→
  ∃S1 S2 S3,S=S1++(S2++S3)∧(∀t∈S1,((t.e:Nat):Int)≤k.st)∧(∀t∈S2,inT k t=true)∧∀t∈S3,k.en≤(t.a:Nat)
 |[],_,_,_,_=>⟨[],[],[],rfl,(fun _ h=>(by cases h)),(fun _ h=>(by cases h)),(fun _ h=>(by cases h))⟩
 |t::S,hs,h0,ht,hp=>by
  obtain⟨s1,s2⟩:=BR.1 hs;have t0:=h0 t (AR ..);rcases ht t (AR ..) with h | h | h
  ·obtain⟨S1,S2,S3,e,q1,q2,q3⟩:=WM hk S s2 (fun u hu=>h0 u (AA _ hu)) (fun u hu=>ht u (AA _ hu)) (fun u hu=>hp u (AA _ hu))
   exact⟨t::S1,S2,S3,by rw[e];rfl,fun u hu=>(AY.1 hu).elim (fun e=>e▸h) (fun hu=>q1 u hu),q2,q3⟩
  ·obtain⟨S1,S2,S3,e,q1,q2,q3⟩:=WM hk S s2 (fun u hu=>h0 u (AA _ hu)) (fun u hu=>ht u (AA _ hu)) (fun u hu=>hp u (AA _ hu))
   cases S1 with
   |nil=>exact⟨[],t::S2,S3,by rw[e];rfl,(fun _ h=>(by cases h)),fun u hu=>(AY.1 hu).elim (fun e=>e▸h) (fun hu=>q2 u hu),q3⟩
   |cons u S1=>
    have hu:u∈S:=by rw[e];exact AR ..
    have:=q1 u (AR ..);have h1:=s1 u hu;have h2:=h0 u (AA _ hu);have h3:=Il.1 h;have h4:=hp t (AR ..) h;omega
  ·refine⟨[],[],t::S,rfl,(fun _ h=>(by cases h)),(fun _ h=>(by cases h)),fun u hu=>?_⟩
   rcases AY.1 hu with rfl | hu
   ·exact h
   ·have:=s1 u hu;omega
theorem filter_all{α:Type}{p:α→Bool}{l:List α}(h:∀x∈l,p x=true):l.filter p=l:=List.filter_eq_self.2 h
theorem IG{α:Type}{p:α→Bool}{l:List α}(h:∀x∈l,p x=false):l.filter p=[]:=List.filter_eq_nil_iff.2 fun x hx=>by rw[h x hx];simp
theorem MQ:∀{K:List Tr} {a e:Int},OB a e K→∀k∈K,a≤k.st∧k.st≤k.en∧k.en≤e∧k.ins
 |[],_,_,_,k,h=>by cases h
 |x::K,a,e,h,k,hk=>by
  obtain⟨h1,h2,h3,h4,h5⟩:=h;rcases AY.1 hk with rfl | hk
  ·exact⟨h1,h2,h3,h4⟩
  ·obtain⟨q1,q2⟩:=MQ h5 k hk;exact⟨by omega,q2⟩
theorem O9(s:Str)(tx:Tr→Str):∀(K:List Tr) (S:List Tk) (a e:Int),OB a e K→e≤(s.length:Nat)→Srt S→(∀t∈S,t.a≤t.e∧(t.k≠5→t.a<t.e))→
  (∀k∈K,∀t∈S,((t.e:Nat):Int)≤k.st∨inT k t=true∨k.en≤(t.a:Nat))→(∀k∈K,tx k=(S.filter (inT k)).flatMap (pcT s))→
  prN s (S.filter fun t=>!(K.any fun k=>inT k t)) (K.map fun k=>(k.st,tx k))=S.flatMap (pcT s)
 |[],S,a,e,_,_,_,_,_,_=>by
  show prN s (S.filter fun t=>!false) []=_
  rw[show(S.filter fun _=>!false)=S from filter_all fun _ _=>rfl,jh]
 |k::K,S,a,e,hi,he,hs,h0,ht,hx=>by
  obtain⟨i1,i2,i3,i4,i5⟩:=hi;have hm:=MQ i5
  have hout:∀t∈S,∀k'∈K,inT k' t=true→k.en<(t.e:Nat)∧k.en≤(t.a:Nat):=by
   intro t hts k' hk' h;have q:=Il.1 h;have:=hm k' hk';have:=(h0 t hts).2 q.1;omega
  rcases Int.lt_or_le k.st k.en with hlt | hge
  ·obtain⟨S1,S2,S3,eS,q1,q2,q3⟩:=WM i2 S hs (fun t h=>(h0 t h).1) (ht k (AR ..)) (fun t h h'=>(h0 t h).2 (Il.1 h').1)
   have m1:∀t∈S1,t∈S:=fun t h=>by rw[eS];simp[h]
   have m2:∀t∈S2,t∈S:=fun t h=>by rw[eS];simp[h]
   have m3:∀t∈S3,t∈S:=fun t h=>by rw[eS];simp[h]
   have n1:∀t∈S1,inT k t=false:=fun t h=>by
    rw[Dp];intro h';have q:=Il.1 h';have:=q1 t h;have:=(h0 t (m1 t h)).2 q.1;omega
   have n3:∀t∈S3,inT k t=false:=fun t h=>by
    rw[Dp];intro h';have q:=Il.1 h';have:=q3 t h;have:=(h0 t (m3 t h)).2 q.1;omega
   have o1:∀t∈S1,∀k'∈K,inT k' t=false:=fun t h k' hk'=>by
    rw[Dp];intro h';have:=hout t (m1 t h) k' hk' h';have:=q1 t h;omega
   have o2:∀t∈S2,∀k'∈K,inT k' t=false:=fun t h k' hk'=>by
    rw[Dp];intro h';have:=hout t (m2 t h) k' hk' h';have q:=Il.1 (q2 t h);omega
   have a1:∀t∈S1,K.any (fun k=>inT k t)=false:=fun t h=>List.any_eq_false.2 fun k' hk'=>by rw[o1 t h k' hk'];simp
   have f1:S1.filter (fun t=>!((k::K).any fun k=>inT k t))=S1:=filter_all fun t h=>by
    show(!(inT k t||K.any fun k=>inT k t))=true
    rw[n1 t h,a1 t h];rfl
   have f2:S2.filter (fun t=>!((k::K).any fun k=>inT k t))=[]:=IG fun t h=>by
    show(!(inT k t||K.any fun k=>inT k t))=false
    rw[q2 t h];rfl
   have f3:S3.filter (fun t=>!((k::K).any fun k=>inT k t))=S3.filter (fun t=>!(K.any fun k=>inT k t)):=Ey fun t h=>by
    show(!(inT k t||K.any fun k=>inT k t))=_
    rw[n3 t h];rfl
   have ek:tx k=S2.flatMap (pcT s):=by
    rw[hx k (AR ..),eS,CL,CL,IG n1,filter_all q2,IG n3];simp
   have ih:=O9 s tx K S3 k.en e i5 he (by rw[eS] at hs;exact(Et.1 (Et.1 hs).2.1).2.1) (fun t h=>h0 t (m3 t h)) (fun k' hk' t h=>ht k' (AA _ hk') t (m3 t h)) (fun k' hk'=>by
    rw[hx k' (AA _ hk'),eS,CL,CL,IG (fun t h=>o1 t h k' hk'),IG (fun t h=>o2 t h k' hk')]
    rfl)
   conv=>lhs;rw[eS]
   rw[CL,CL,f1,f2,f3,Bj,Bv,VO s (k:=(k.st,tx k)) S1 _ (fun t h=>by have:=q1 t h;have:=(h0 t (m1 t h)).1;show ¬k.st<_;omega),
    xz s (k:=(k.st,tx k)) (by show k.st<_;omega) _ (fun t h=>by have:=q3 t (Ck.1 h).1;show k.st<_;omega),ih,eS]
   simp[ek]
  ·have nk:∀t∈S,inT k t=false:=fun t h=>by
    rw[Dp];intro h';have q:=Il.1 h';have:=(h0 t h).2 q.1;omega
   have ek:tx k=[]:=by rw[hx k (AR ..),IG nk];rfl
   have ef:S.filter (fun t=>!((k::K).any fun k=>inT k t))=S.filter (fun t=>!(K.any fun k=>inT k t)):=Ey fun t h=>by
    show(!(inT k t||K.any fun k=>inT k t))=_
    rw[nk t h];rfl
   rw[ef,Bv,ek,bq s _ _ (fun x hx=>by obtain⟨k',hk',rfl⟩:=EG.1 hx;have:=(hm k' hk').1;show k.st≤k'.st;omega)]
   exact O9 s tx K S k.en e i5 he hs h0 (fun k' hk'=>ht k' (AA _ hk')) (fun k' hk'=>hx k' (AA _ hk'))
end Go.Abs.Z

namespace Go.Abs.Z
open Go.Proofs Go.RowKit
set_option linter.unusedVariables false
mutual
def Tr.nds:Tr→List Tr
 |.mk kd tx st en b ks=>.mk kd tx st en b ks::Fa ks
def Fa:List Tr→List Tr
 |[]=>[]
 |x::xs=>x.nds++Fa xs
end
mutual

def Tr.no2:Tr→Prop
 |.mk kd _ _ _ _ ks=>kd≠2∧NI ks
def NI:List Tr→Prop
 |[]=>True
 |x::xs=>x.no2∧NI xs
end
def VW(x:Tr)(t:Tk):Bool:=inT x t||(t.k==5&&x.kind==2)
def Pe(x:Tr)(t:Tk):Bool:=VW x t&&!(x.kids.any fun k=>inT k t)
mutual
def Tr.prt(s:Str)(T:List Tk):Tr→Str
 |.mk kd tx st en b ks=>prN s (T.filter (Pe (.mk kd tx st en b ks))) (JJ s T ks)
def JJ(s:Str)(T:List Tk):List Tr→List (Int×Str)
 |[]=>[]
 |x::xs=>(x.st,Tr.prt s T x)::JJ s T xs
end
theorem SS(s:Str)(T:List Tk):∀ks:List Tr,JJ s T ks=ks.map fun k=>(k.st,k.prt s T)
 |[]=>rfl
 |x::xs=>by rw[JJ,SS s T xs];rfl
theorem QC{T:List Tk}:∀{K:List Tr},Me T K→∀k∈K,k.cuts T
 |[],_,k,h=>by cases h
 |x::K,h,k,hk=>by
  rcases AY.1 hk with rfl | hk
  ·exact h.1
  ·exact QC h.2 k hk
theorem Tr.cuts.tri{T:List Tk}{k:Tr}(h:k.cuts T){t:Tk}(ht:t∈T)(h5:t.k≠5):((t.e:Nat):Int)≤k.st∨inT k t=true∨k.en≤(t.a:Nat):=by
 obtain⟨kd,tx,st,en,b,ks⟩:=k;obtain⟨h1,h2,_⟩:=h;rcases h1 t ht with h | h
 ·exact .inl h
 ·rcases h2 t ht with h' | h'
  ·exact .inr (.inl (Il.2 ⟨h5,h,h'⟩))
  ·exact .inr (.inr h')
section
variable{s:Str}{T:List Tk}
mutual
theorem pK(hs:Srt T)(h0:∀t∈T,t.a≤t.e∧(t.k≠5→t.a<t.e)):∀x:Tr,x.ins→x.cuts T→x.no2→x.en≤(s.length:Nat)→x.prt s T=(T.filter (inT x)).flatMap (pcT s)
 |.mk kd tx st en b ks,hi,hc,h2,he=>by
  have ih:=YA hs h0 ks hi hc.2.2 h2.2 he;have hm:=MQ hi;rw[Tr.prt,SS]
  have e:T.filter (Pe (.mk kd tx st en b ks))=(T.filter (inT (.mk kd tx st en b ks))).filter fun t=>!(ks.any fun k=>inT k t):=by
   rw[List.filter_filter];refine Ey fun t _=>?_
   have hk:(kd==2)=false:=beq_false_of_ne h2.1;show((inT (.mk kd tx st en b ks) t||(t.k==5&&kd==2))&&!(ks.any fun k=>inT k t))=_
   rw[hk,Bool.and_false,CJ,Bool.and_comm]
  rw[e];refine O9 s (fun k=>k.prt s T) ks _ st en hi he (hs.filter _) (fun t h=>h0 t (Ck.1 h).1) (fun k hk t h=>?_) (fun k hk=>?_)
  ·exact(QC hc.2.2 k hk).tri (Ck.1 h).1 (Il.1 (Ck.1 h).2).1
  ·show k.prt s T=_;rw[ih k hk,List.filter_filter];congr 1;refine Ey fun t _=>?_
   cases h:inT k t with
   |false=>rfl
   |true=>
    have q:=Il.1 h;have:=hm k hk;rw[(Il (x:=.mk kd tx st en b ks)).2 ⟨q.1,by show st≤_;omega,by show _≤en;omega⟩];rfl
theorem YA(hs:Srt T)(h0:∀t∈T,t.a≤t.e∧(t.k≠5→t.a<t.e)):∀(ks:List Tr) {a e:Int},OB a e ks→Me T ks→NI ks→e≤(s.length:Nat)→∀k∈ks,k.prt s T=(T.filter (inT k)).flatMap (pcT s)
 |[],_,_,_,_,_,_,k,h=>by cases h
 |x::xs,a,e,hi,hc,h2,he,k,hk=>by
  obtain⟨i1,i2,i3,i4,i5⟩:=hi;have hm:=MQ i5;have hle:x.en≤(s.length:Nat):=by omega
  rcases AY.1 hk with ek | hk
  ·rw[ek];exact pK hs h0 x i4 hc.1 h2.1 hle
  ·exact YA hs h0 xs i5 hc.2 h2.2 he k hk
end
end
theorem pJ{s:Str}{T:List Tk}(h:Chn s.length 0 T){tx:Str}{b:Bool}{ks:List Tr}(hi:OB 0 (s.length:Nat) ks)(hc:Me T ks)(h2:NI ks):(Tr.mk 2 tx 0 (s.length:Nat) b ks).prt s T=s:=by
 have hs:=h.srt;have hb:=h.bd;have h0:∀t∈T,t.a≤t.e∧(t.k≠5→t.a<t.e):=fun t ht=>⟨(hb t ht).2.1,(hb t ht).2.2.2.1⟩
 have ih:=YA (s:=s) hs h0 ks hi hc h2 (Int.le_refl _);have hm:=MQ hi;rw[Tr.prt,SS]
 have e:T.filter (Pe (.mk 2 tx 0 (s.length:Nat) b ks))=T.filter fun t=>!(ks.any fun k=>inT k t):=by
  refine Ey fun t ht=>?_
  have hmi:VW (.mk 2 tx 0 (s.length:Nat) b ks) t=true:=by
   unfold VW;by_cases h5:t.k=5
   ·rw[show(t.k==5)=true by simp[h5]];simp[Tr.kind]
   ·rw[Il.2 ⟨h5,by show(0:Int)≤_;omega,by show _≤((s.length:Nat):Int);have:=(hb t ht).2.2.1;omega⟩];rfl
  show(VW _ t&&!(ks.any fun k=>inT k t))=_
  rw[hmi];rfl
 rw[e,O9 s (fun k=>k.prt s T) ks T 0 _ hi (Int.le_refl _) hs h0 (fun k hk t ht=>?_) ih,h.text rfl]
 ·rfl
 ·by_cases h5:t.k=5
  ·refine .inr (.inr ?_)
   have:=(hb t ht).2.2.2.2 h5;have:=hm k hk;omega
  ·exact(QC hc k hk).tri ht h5
instance:DecidableEq Tk:=fun a b=>
 if h:a.k=b.k∧a.f=b.f∧a.a=b.a∧a.e=b.e then .isTrue (by obtain⟨h1,h2,h3,h4⟩:=h;cases a;cases b;simp_all) else .isFalse fun e=>h (by subst e;exact⟨rfl,rfl,rfl,rfl⟩)
section
variable{t:Tk}
end
theorem gQ(T:List Tk):Cut T 0:=fun t _=>.inr (by omega)
theorem jV{T:List Tk}(hs:Srt T)(hae:∀t∈T,t.a≤t.e){u:Tk}(hu:u∈T):Cut T (u.a:Nat)∧Cut T (u.e:Nat):=by
 have key:∀t∈T,t=u∨t.e≤u.a∨u.e≤t.a:=by
  clear hae
  induction T with
  |nil=>intro t h;cases h
  |cons x T ih=>
   obtain⟨s1,s2⟩:=BR.1 hs;intro t ht;rcases AY.1 ht with e1 | ht'
   ·rcases AY.1 hu with e2 | hu'
    ·exact .inl (e1.trans e2.symm)
    ·exact .inr (.inl (by rw[e1];exact(s1 u hu').1))
   ·rcases AY.1 hu with e2 | hu'
    ·exact .inr (.inr (by rw[e2];exact(s1 t ht').1))
    ·exact ih s2 hu' t ht'
 have hu2:=hae u hu;refine⟨fun t ht=>?_,fun t ht=>?_⟩
 ·have h2:=hae t ht;rcases key t ht with rfl | h | h
  ·exact .inr (by omega)
  ·exact .inl (by omega)
  ·exact .inr (by omega)
 ·have h2:=hae t ht;rcases key t ht with rfl | h | h
  ·exact .inl (by omega)
  ·exact .inl (by omega)
  ·exact .inr (by omega)
section
variable{T ls:List Tk}(hs:Srt T)(hae:∀t∈T,t.a≤t.e)(hl:∀t∈ls,t∈T)
include hs hae hl
theorem AQC(i:Nat):Cut T (tA ls i:Nat):=by
 unfold tA;cases h:ls[i]? with
 |none=>exact gQ T
 |some t=>exact(jV hs hae (hl t (Au h))).1
theorem tH(i:Nat):Cut T (en ls i:Nat):=by
 cases i with
 |zero=>exact gQ T
 |succ i=>
  show Cut T (tE ls i:Nat);unfold tE;cases h:ls[i]? with
  |none=>exact gQ T
  |some t=>exact(jV hs hae (hl t (Au h))).2
end
section
variable{T ls:List Tk}
mutual
theorem nE(hs:Srt T)(hae:∀t∈T,t.a≤t.e)(hl:∀t∈ls,t∈T):∀x:AT,(trP ls x).cuts T
 |.mk kd tx f k b ks=>by
  have ih:=Qe hs hae hl ks
  have h1:Cut T (if f<k then((tA ls f:Nat):Int) else(en ls k:Nat)):=by
   split
   ·exact AQC hs hae hl f
   ·exact tH hs hae hl k
  rw[trP];refine⟨?_,tH hs hae hl k,ih⟩
  cases hx:EP ls ks with
  |nil=>exact h1
  |cons u us=>
   rw[hx] at ih;show Cut T (min _ u.st)
   have hu:Cut T u.st:=by
    obtain⟨kd',tx',st',en',b',ks'⟩:=u;exact ih.1.1
   rcases Int.le_total (if f<k then((tA ls f:Nat):Int) else(en ls k:Nat)) u.st with h | h
   ·rw[Int.min_eq_left h];exact h1
   ·rw[Int.min_eq_right h];exact hu
theorem Qe(hs:Srt T)(hae:∀t∈T,t.a≤t.e)(hl:∀t∈ls,t∈T):∀xs:List AT,Me T (EP ls xs)
 |[]=>trivial
 |x::xs=>⟨nE hs hae hl x,Qe hs hae hl xs⟩
end
end
mutual
def AT.no2:AT→Prop
 |.mk kd _ _ _ _ ks=>kd≠2∧NK ks
def NK:List AT→Prop
 |[]=>True
 |x::xs=>x.no2∧NK xs
end
mutual
theorem uP(ls:List Tk):∀x:AT,x.no2→(trP ls x).no2
 |.mk kd tx f k b ks,h=>by
  rw[trP];exact⟨fun e=>h.1 (by omega),R3 ls ks h.2⟩
theorem R3(ls:List Tk):∀xs:List AT,NK xs→NI (EP ls xs)
 |[],_=>trivial
 |x::xs,h=>⟨uP ls x h.1,R3 ls xs h.2⟩
end
theorem JS:∀{xs:List AT} {x:AT},NK xs→x.no2→NK (xs++[x])
 |[],x,_,h=>⟨h,trivial⟩
 |y::xs,x,h,h'=>⟨h.1,JS h.2 h'⟩
end Go.Abs.Z

namespace Go.Abs.Z
open Go.Proofs Go.RowKit
set_option linter.unusedVariables false
def KV(K:PV)(ks:List Tr):Prop:=(K=.nils∧ks=[])∨K=.slice false 5 (Tr.pvs ks)
theorem KV.kp{T:Tr}(w:T.wf):KV T.kp T.kids:=by
 obtain⟨k,t,a,e,n,ks⟩:=T;cases n
 ·exact .inr rfl
 ·exact .inl ⟨rfl,w.1 rfl⟩
theorem KV.CE{K:PV}{ks:List Tr}(h:KV K ks):K.CE=true:=by
 rcases h with⟨rfl,_⟩ | rfl
 ·rfl
 ·exact Tr.Ng ks
mutual

def Tr.pb(s:Str)(T:List Tk):Tr→Prop
 |.mk kd tx st en b ks=>((Tr.mk kd tx st en b ks).prt s T).length≤4294967296∧pbs s T ks
def pbs(s:Str)(T:List Tk):List Tr→Prop
 |[]=>True
 |x::xs=>x.pb s T∧pbs s T xs
end
section
variable{s:Str}{T:Tr}{ts:List Tk}{b:Bool}
theorem BqZ(at_:Nat):∀(ks:List Tr) (K:PV) (w:Str),KV K ks→(∀k∈ks,∃σ,E 27 [srV s T ts b,k.pv] [] (.str (k.prt s ts)) σ)→w.length+(bef (JJ s ts ks) (at_:Nat)).1.length≤4294967296→
  ∃K' ks',KV K' ks'∧JJ s ts ks'=(bef (JJ s ts ks) (at_:Nat)).2∧(∀k∈ks',k∈ks)∧
   LL a70 0 [(0,some (N at_)),(1,some (.ref 1 0)),(2,some (.ref 0 0)),(3,some (.vptr (srV s T ts b)))] (stP (srV s T ts b) w K) (.exit 0) [] (stP (srV s T ts b) (w++(bef (JJ s ts ks) (at_:Nat)).1) K')
 |[],K,w,hK,hE,hw=>by
  refine⟨K,[],hK,rfl,fun k h=>h,?_⟩
  show LE _ _ _ _ _ _ (stP _ (w++[]) K);rw[Az];rcases hK with⟨rfl,_⟩ | rfl
  ·exact BzE
  ·exact BzD
 |k::ks,K,w,hK,hE,hw=>by
  rcases hK with⟨_,h⟩ | rfl
  ·cases h
  rw[JJ] at hw ⊢;by_cases hk:k.st<(at_:Nat)
  ·rw[Ur (k:=(k.st,k.prt s ts)) hk] at hw ⊢;simp only[Af] at hw;obtain⟨σ2,h26⟩:=hE k (AR ..);obtain⟨K',ks',h1,h2,h3,h4⟩:=BqZ at_ ks _ (w++k.prt s ts) (.inr rfl) (fun x hx=>hE x (AA _ hx)) (by rw[Af];omega)
   refine⟨K',ks',h1,h2,fun x hx=>AA _ (h3 x hx),?_⟩
   rw[AP] at h4;exact BzB hk h26 (by omega) h4
  ·rw[Lm (k:=(k.st,k.prt s ts)) hk] at hw ⊢;refine⟨_,k::ks,.inr rfl,by rw[JJ],fun x hx=>hx,?_⟩
   show LE _ _ _ _ _ _ (stP _ (w++[]) _);rw[Az];exact BzC hk
theorem e82(at_:Nat){ks:List Tr}{K:PV}{w:Str}(hK:KV K ks)(hE:∀k∈ks,∃σ,E 27 [srV s T ts b,k.pv] [] (.str (k.prt s ts)) σ)(hw:w.length+(bef (JJ s ts ks) (at_:Nat)).1.length≤4294967296):
  ∃K' ks',KV K' ks'∧JJ s ts ks'=(bef (JJ s ts ks) (at_:Nat)).2∧(∀k∈ks',k∈ks)∧
   E 70 [N at_,.ref 1 0,.ref 0 0,.vptr (srV s T ts b)] (stP (srV s T ts b) w K) (.tuple []) (stP (srV s T ts b) (w++(bef (JJ s ts ks) (at_:Nat)).1) K'):=by
 obtain⟨K',ks',h1,h2,h3,h4⟩:=BqZ at_ ks K w hK hE hw;exact⟨K',ks',h1,h2,h3,y82 h4⟩
end
section
variable(s:Str)(T x:Tr)(ts:List Tk)(b:Bool)
abbrev PP(V:PV):PV:=.func 70 [] [.ref 1 0,.ref 0 0,.vptr V]
abbrev rY(V x:PV):PV:=.func 63 [] [.vptr V,.vptr x]
def pF(V x kp:PV)(t8 t15:Option PV)(l:Frm):Frm:=some V::some x::some (.vptr V)::some (.vptr x)::some (.str [])::some (.ref 0 0)::some (.ref 1 0)::some (.ref 2 0)::t8::some (.vptr kp)::some kp::some (PP V)::some V::some x::some (rY V x)::t15::l
theorem Aw3:FEx (lf27.pre.getD 0 .skip) (some (srV s T ts b)::some x.pv::nn 33) [] .normal (some (srV s T ts b)::some x.pv::some (.vptr (srV s T ts b))::some (.vptr x.pv)::some (.str [])::nn 30) []:=
 FT [sp 0 (AxP s T ts b),sp 0 (DD x)]
theorem Aw2:FEx (lf27.pre.getD 1 .skip) (some (srV s T ts b)::some x.pv::some (.vptr (srV s T ts b))::some (.vptr x.pv)::some (.str [])::nn 30) [] .normal (some (srV s T ts b)::some x.pv::some (.vptr (srV s T ts b))::some (.vptr x.pv)::some (.str [])::some (.ref 0 0)::nn 29) [[.bld 101 5 []]]:=
 FT []
theorem AZP:Bh pur run (.w (.st 1)) [.ref 1 0,x.kp] [[.bld 101 5 []],[.nils]] [] [[.bld 101 5 []],[x.kp]]:=by
 obtain⟨k,t,a,e,n,ks⟩:=x;cases n
 ·exact⟨0,fun _ _=>rfl⟩
 ·exact⟨0,fun _ _=>rfl⟩
theorem Aw1:FEx (lf27.pre.getD 2 .skip) (some (srV s T ts b)::some x.pv::some (.vptr (srV s T ts b))::some (.vptr x.pv)::some (.str [])::some (.ref 0 0)::nn 29) [[.bld 101 5 []]] .normal
  (some (srV s T ts b)::some x.pv::some (.vptr (srV s T ts b))::some (.vptr x.pv)::some (.str [])::some (.ref 0 0)::some (.ref 1 0)::none::none::some (.vptr x.kp)::some x.kp::nn 24) [[.bld 101 5 []],[x.kp]]:=
 FT [sp 0 (E8 x),st 0 (QS [[.bld 101 5 []]] (GJ x)),st 1 (AZP x)]
theorem Aw0:FEx (lf27.pre.getD 3 .skip) (some (srV s T ts b)::some x.pv::some (.vptr (srV s T ts b))::some (.vptr x.pv)::some (.str [])::some (.ref 0 0)::some (.ref 1 0)::none::none::some (.vptr x.kp)::some x.kp::nn 24) [[.bld 101 5 []],[x.kp]] .normal
  (some (srV s T ts b)::some x.pv::some (.vptr (srV s T ts b))::some (.vptr x.pv)::some (.str [])::some (.ref 0 0)::some (.ref 1 0)::some (.ref 2 0)::none::some (.vptr x.kp)::some x.kp::some (PP (srV s T ts b))::nn 23) (stP (srV s T ts b) [] x.kp):=
 FT []
theorem BjX(σ:Sto):FEx lf27.rg (some (srV s T ts b)::some x.pv::some (.vptr (srV s T ts b))::some (.vptr x.pv)::some (.str [])::some (.ref 0 0)::some (.ref 1 0)::some (.ref 2 0)::none::some (.vptr x.kp)::some x.kp::some (PP (srV s T ts b))::nn 23) σ .normal
  (pF (srV s T ts b) x.pv x.kp none none (nn 19)) σ:=
 FT [st 0 (QS σ (jC s T ts b)),st 0 (QS σ (Bu x)),st 0 (Fy (σ:=σ) (vs:=[srV s T ts b,x.pv]) (r':=.func 63 [] [.vptr (srV s T ts b),.vptr x.pv]) (y25 s T x ts b) (by simp) (by simp) rfl rfl)]
theorem AvZ(t:Tk)(σ:Sto):FEx lf27.aca (pF (srV s T ts b) x.pv x.kp none (some t.pv) (nn 19)) σ .normal (pF (srV s T ts b) x.pv x.kp (some (.vptr t.pv)) (some t.pv) (nn 19)) σ:=FT []
variable{s T x ts b}
theorem Aw5(t:Tk){w w':Str}{K K':PV}(h:E 70 [N t.a,.ref 1 0,.ref 0 0,.vptr (srV s T ts b)] (stP (srV s T ts b) w K) (.tuple []) (stP (srV s T ts b) w' K'))(h1:t.f≤t.e)(h2:t.e≤s.length)(h3:w'.length+(pcT s t).length≤4294967296):
  FEx lf27.ac (pF (srV s T ts b) x.pv x.kp (some (.vptr t.pv)) (some t.pv) (nn 19)) (stP (srV s T ts b) w K) .normal
   (pF (srV s T ts b) x.pv x.kp (some (.vptr t.pv)) (some t.pv) (some (PP (srV s T ts b))::some (.vptr (N t.a))::some (N t.a)::some (.tuple [])::some (.vptr (.str s))::some (.str s)::some (.vptr (N t.f))::some (N t.f)::some (.vptr (N t.e))::some (N t.e)::some (.str (pcT s t))::some (.tuple [N (pcT s t).length,.nili])::nn 7))
   (stP (srV s T ts b) (w'++pcT s t) K'):=
 FT [st 3 (NW (fs:=[]) (vs:=[N t.a]) (cs:=[.ref 1 0,.ref 0 0,.vptr (srV s T ts b)]) h rfl rfl rfl rfl),sp 6 (NU s t.f t.e h1 h2),st 0 (Ct (vs:=[.ref 0 0,.str (pcT s t)]) (e83 (V:=srV s T ts b) (K:=K') h3) rfl rfl rfl rfl)]
theorem e84{w:Str}{V K:PV}:E 72 [.ref 0 0] (stP V w K) (.str w) [[.dead],[K],[PP V]]:=Ns 0 fun n _=>rfl
theorem Aw4{w w':Str}{K K':PV}(h:E 70 [N (s.length+1),.ref 1 0,.ref 0 0,.vptr (srV s T ts b)] (stP (srV s T ts b) w K) (.tuple []) (stP (srV s T ts b) w' K'))(hs:s.length<2000000000):
  FEx lf27.post (pF (srV s T ts b) x.pv x.kp none none (nn 19)) (stP (srV s T ts b) w K) .ret
   (some (srV s T ts b)::some x.pv::some (.vptr (srV s T ts b))::some (.vptr x.pv)::some (.str w')::some (.ref 0 0)::some (.ref 1 0)::some (.ref 2 0)::none::some (.vptr x.kp)::some x.kp::some (PP (srV s T ts b))::some (srV s T ts b)::some x.pv::some (rY (srV s T ts b) x.pv)::none ::
    none::none::none::none::none::none::none::none::none::none::none::none::some (PP (srV s T ts b))::some (.vptr (.str s))::some (.str s)::some (N s.length)::some (N (s.length+1))::some (.tuple [])::[some (.str w')]) [[.dead],[K'],[PP (srV s T ts b)]]:=
 FT [sp 4 (AB s.length 1 hs),st 0 (NW (fs:=[]) (vs:=[N (s.length+1)]) (cs:=[.ref 1 0,.ref 0 0,.vptr (srV s T ts b)]) h rfl rfl rfl rfl),st 0 (Ct (vs:=[.ref 0 0]) (e84 (V:=srV s T ts b) (K:=K') (w:=w')) rfl rfl rfl rfl)]
theorem Sg{V K:PV}{w:Str}(hV:V.CE=true)(hK:K.CE=true):(stP V w K).all PV.CP=true:=by simp[stP,PV.CP,PV.CE,hV,hK]
theorem xA(t:Tk){w w':Str}{K K':PV}(hK:K.CE=true)(hK':K'.CE=true)(h:E 70 [N t.a,.ref 1 0,.ref 0 0,.vptr (srV s T ts b)] (stP (srV s T ts b) w K) (.tuple []) (stP (srV s T ts b) w' K'))(h1:t.f≤t.e)(h2:t.e≤s.length)(h3:w'.length+(pcT s t).length≤4294967296):
  ∃N,∀n,N≤n→∀m,KS pur (run n) m lf27.aca lf27.ac lf27.La lf27.L (nn 35) lf27.ds [t.pv] (pF (srV s T ts b) x.pv x.kp none none (nn 19)) (stP (srV s T ts b) w K)=some (pF (srV s T ts b) x.pv x.kp none none (nn 19),stP (srV s T ts b) (w'++pcT s t) K'):=by
 have hV:=Sj s T ts b;have m3:t.pv.CE=true:=rfl;have m4:=x.Gt;have m5:=Tx x;have f1:=x.Ik;have f2:=Pw x;have f3:=Rx s T ts b;have f4:t.pv.free=true:=rfl
 have k1:C9 lf27.La (pF (srV s T ts b) x.pv x.kp (some (.vptr t.pv)) (some t.pv) (nn 19))=pF (srV s T ts b) x.pv x.kp (some (.vptr t.pv)) (some t.pv) (nn 19):=by
  simp only[C9,lf27,pF,nn,List.zipWith,Option.filter,f1,f2,f3,f4];rfl
 have k2:C9 lf27.L (pF (srV s T ts b) x.pv x.kp (some (.vptr t.pv)) (some t.pv) (some (PP (srV s T ts b))::some (.vptr (N t.a))::some (N t.a)::some (.tuple [])::some (.vptr (.str s))::some (.str s)::some (.vptr (N t.f))::some (N t.f)::some (.vptr (N t.e))::some (N t.e)::some (.str (pcT s t))::some (.tuple [N (pcT s t).length,.nili])::nn 7))=pF (srV s T ts b) x.pv x.kp none none (nn 19):=by
  simp only[C9,lf27,pF,nn,List.zipWith,Option.filter,f1,f2,f3,f4];rfl
 refine ZP (f:=lf27) (X:=nn 35) (AvZ s T x ts b t _) k1 ⟨Ij (Sg hV hK) _ ?_,rfl⟩ rfl (Aw5 (x:=x) t h h1 h2 h3) k2 ⟨Ij (Sg hV hK') _ ?_,rfl⟩ rfl
 ·simp[Ec,nn,pF,PV.CE,PV.CP,hV,m3,m4,m5]
 ·simp[Ec,nn,pF,PV.CE,PV.CP,hV,m4,m5]
theorem pY(hs:s.length<1000000000):∀(L:List Tk) (ks:List Tr) (K:PV) (w:Str),KV K ks→(∀k∈ks,∃σ,E 27 [srV s T ts b,k.pv] [] (.str (k.prt s ts)) σ)→(∀t∈L,t.f≤t.e∧t.e≤s.length)→w.length+(prN s L (JJ s ts ks)).length≤4294967296→
  ∃w' K' ks',KV K' ks'∧(∀k∈ks',k∈ks)∧w'++(bef (JJ s ts ks') ((s.length:Nat)+1)).1=w++prN s L (JJ s ts ks)∧
   ∃N,∀n,N≤n→∀m,Ia pur (run n) m lf27.aca lf27.ac lf27.La lf27.L (nn 35) lf27.ds (L.map fun t=>[t.pv]) (pF (srV s T ts b) x.pv x.kp none none (nn 19)) (stP (srV s T ts b) w K)=some (pF (srV s T ts b) x.pv x.kp none none (nn 19),stP (srV s T ts b) w' K')
 |[],ks,K,w,hK,hE,ht,hw=>⟨w,K,ks,hK,fun k h=>h,rfl,0,fun n _ m=>rfl⟩
 |t::L,ks,K,w,hK,hE,ht,hw=>by
  rw[prN] at hw;simp only[Af] at hw;obtain⟨q1,q2⟩:=ht t (AR ..);obtain⟨K1,ks1,h1,h2,h3,h4⟩:=e82 (w:=w) t.a hK hE (by omega)
  obtain⟨N1,H1⟩:=xA (x:=x) t hK.CE h1.CE h4 q1 q2 (by rw[Af];omega)
  obtain⟨w',K',ks',g1,g2,g3,N2,H2⟩:=pY hs L ks1 K1 (w++(bef (JJ s ts ks) (t.a:Nat)).1++pcT s t) h1 (fun k hk=>hE k (h3 k hk)) (fun u hu=>ht u (AA _ hu)) (by rw[h2];simp only[Af];omega)
  refine⟨w',K',ks',g1,fun k hk=>h3 k (g2 k hk),?_,max N1 N2,fun n hn m=>?_⟩
  ·rw[g3,h2,prN];simp only[AP]
  ·rw[Bv,Ia,H1 n (by omega) m]
   dsimp only;rw[H2 n (by omega) m]
theorem yA(hs:s.length<1000000000)(w:x.wf)(hE:∀k∈x.kids,∃σ,E 27 [srV s T ts b,k.pv] [] (.str (k.prt s ts)) σ){L:List Tk}(hi:itr 63 [.vptr (srV s T ts b),.vptr x.pv]=some (L.map fun t=>[t.pv]))(ht:∀t∈L,t.f≤t.e∧t.e≤s.length)
  (hb:(prN s L (JJ s ts x.kids)).length≤4294967296):∃σ,E 27 [srV s T ts b,x.pv] [] (.str (prN s L (JJ s ts x.kids))) σ:=by
 have hV:=Sj s T ts b;have m4:=x.Gt;have m5:=Tx x;have f1:=x.Ik;have f2:=Pw x;have f3:=Rx s T ts b;obtain⟨w',K',ks',g1,g2,g3,hit⟩:=pY (x:=x) hs L x.kids x.kp [] (KV.kp w) hE ht (by simpa using hb)
 have e0:(((s.length+1:Nat)):Int)=(s.length:Nat)+1:=by omega
 obtain⟨K2,ks2,u1,u2,u3,u4⟩:=e82 (w:=w') (s.length+1) g1 (fun k hk=>hE k (g2 k hk)) (by
  rw[e0,←Af,g3];simpa using hb)
 rw[e0,g3,Bj] at u4;have n1:FQ (srV s T ts b)=false:=FC hV;have n2:FQ x.pv=false:=FC m4;have n3:FQ (.vptr (srV s T ts b))=false:=FC (by simp[PV.CE,hV])
 have n4:FQ (.vptr x.pv)=false:=FC (by simp[PV.CE,m4])
 have n5:FQ (.vptr x.kp)=false:=FC (by simp[PV.CE,m5])
 have n6:FQ x.kp=false:=FC m5;have n7:FQ (PP (srV s T ts b))=false:=FC (by simp[PV.CE,PV.CP,hV])
 have n8:FQ (rY (srV s T ts b) x.pv)=false:=FC (by simp[PV.CE,PV.CP,hV,m4])
 have k0:C9 lf27.L (pF (srV s T ts b) x.pv x.kp none none (nn 19))=pF (srV s T ts b) x.pv x.kp none none (nn 19):=by
  simp only[C9,lf27,pF,nn,List.zipWith,Option.filter,f1,f2,f3];rfl
 have k4:C9 lf27.Lr (some (srV s T ts b)::some x.pv::some (.vptr (srV s T ts b))::some (.vptr x.pv)::some (.str (prN s L (JJ s ts x.kids)))::some (.ref 0 0)::some (.ref 1 0)::some (.ref 2 0)::none::some (.vptr x.kp)::some x.kp::some (PP (srV s T ts b))::some (srV s T ts b)::some x.pv::some (rY (srV s T ts b) x.pv)::none::none::none::none::none::none::none::none::none::none::none::none::none::some (PP (srV s T ts b))::some (.vptr (.str s))::some (.str s)::some (N s.length)::some (N (s.length+1))::some (.tuple [])::[some (.str (prN s L (JJ s ts x.kids)))])=some (srV s T ts b)::some x.pv::some (.vptr (srV s T ts b))::some (.vptr x.pv)::some (.str (prN s L (JJ s ts x.kids)))::some (.ref 0 0)::some (.ref 1 0)::some (.ref 2 0)::none::some (.vptr x.kp)::some x.kp::some (PP (srV s T ts b))::some (srV s T ts b)::some x.pv::some (rY (srV s T ts b) x.pv)::none::none::none::none::none::none::none::none::none::none::none::none::none::some (PP (srV s T ts b))::some (.vptr (.str s))::some (.str s)::some (N s.length)::some (N (s.length+1))::some (.tuple [])::[some (.str (prN s L (JJ s ts x.kids)))]:=by
  simp only[C9,lf27,List.zipWith,Option.filter,f1,f2,f3];rfl
 refine⟨_,zh (f:=lf27) (g:=27) (X:=nn 35) (fun _ _ _=>rfl) ⟨rfl,by show 2≤35;decide⟩ (MG (Aw3 s T x ts b) (MG (Aw2 s T x ts b) (MG (Aw1 s T x ts b) (MG (Aw0 s T x ts b) pre_nil)))) (BjX s T x ts b _) rfl hi ?_
  ⟨Ij (Sg hV m5) _ ?_,rfl,rfl,rfl,by simp[PV.flat],by simp<;>(intros;rfl)⟩ ?_ (Aw4 (x:=x) u4 (by omega)) ⟨.inr rfl,Ij (by simp[PV.CP,PV.CE,hV,u1.CE]) _ ?_,rfl⟩ ?_⟩
 ·simp only[IU,lf27,pF,nn,List.zipWith,Option.filter,n1,n2,n3,n4,n5,n6,n7,n8];rfl
 ·rw[k0];simp[Ec,nn,pF,PV.CE,PV.CP,hV,m4,m5]
 ·rw[k0];exact hit
 ·rw[k4];simp[Ec,nn,PV.CE,PV.CP,hV,m4,m5]
 ·rw[k4];rfl
end
end Go.Abs.Z

namespace Go.Abs.Z
open Go.Proofs Go.RowKit
set_option linter.unusedVariables false
theorem jq(x:Tr):0<x.nds.length:=by cases x;simp[Tr.nds]
mutual
theorem bF:∀(x:Tr) (n:Nat),x.wf→2 * x.nds.length≤n→I8 n x.pv=some (x.nds.map Tr.pv)
 |.mk k t a e b ks,n,w,h=>by
  rw[Tr.nds,Al] at h;obtain⟨n,rfl⟩:∃m,n=m+1:=⟨n - 1,by omega⟩
  cases b with
  |true=>
   have:ks=[]:=w.1 rfl;subst this;rfl
  |false=>
   have:=VU ks n w.2 (by omega)
   show(Hu n (Tr.pvs ks)).map _=_;rw[this];rfl
theorem VU:∀(xs:List Tr) (n:Nat),Tr.wfs xs→2 * (Fa xs).length+1≤n→Hu n (Tr.pvs xs)=some ((Fa xs).map Tr.pv)
 |[],n,_,h=>by
  obtain⟨n,rfl⟩:∃m,n=m+1:=⟨n - 1,by omega⟩
  rfl
 |x::xs,n,w,h=>by
  rw[Fa,Af] at h;have:=jq x;obtain⟨n,rfl⟩:∃m,n=m+1:=⟨n - 1,by omega⟩
  show(match I8 n x.pv,Hu n (Tr.pvs xs) with | some l,some r=>some (l++r) | _,_=>none)=_
  rw[bF x n w.1 (by omega),VU xs n w.2 (by omega),Fa,Ca]
end
theorem e7n{x:Tr}(w:x.wf)(h:x.nds.length≤400000):E 61 [x.pv] [] (N x.nds.length) []:=e7 x [] rfl (bF x 1000000 w (by omega)) (by omega)
theorem Px:∀xs:List Tr,xs.length≤(Fa xs).length
 |[]=>Ag _
 |x::xs=>by
  have:=Px xs;have:=jq x;rw[Fa,Af,Al];omega
theorem rG:∀{xs:List Tr} {k:Tr},k∈xs→k.nds.length≤(Fa xs).length
 |x::xs,k,h=>by
  rw[Fa,Af];rcases AY.1 h with rfl | h
  ·omega
  ·have:=rG h;omega
theorem Pk(x:Tr):x.nds.length=1+(Fa x.kids).length:=by cases x;simp[Tr.nds,Tr.kids,Er]
theorem sG(t:Tk)(x:Tr):inP t.pv x.pv=some (inT x t):=by
 obtain⟨k,tx,a,e,b,ks⟩:=x
 have h:(((t.k:Nat):Int) != 5)=(t.k != 5):=by
  by_cases h:t.k=5
  ·rw[h];rfl
  ·rw[show(t.k != 5)=true by simp[h]]
   exact bne_iff_ne.2 (by omega)
 cases b
 ·show some _=some _;rw[h];rfl
 ·show some _=some _;rw[h];rfl
theorem jY(t:Tk):∀ks:List Tr,Zg t.pv (Tr.pvs ks)=some (ks.any fun k=>inT k t)
 |[]=>rfl
 |k::ks=>by
  show(match inP t.pv k.pv with | some true=>some true | some false=>Zg t.pv (Tr.pvs ks) | none=>none)=_
  rw[sG,List.any_cons];cases inT k t with
  |true=>rfl
  |false=>exact jY t ks
theorem xD(t:Tk)(x:Tr):qa t.pv x.pv x.kind (Tr.pvs x.kids)=some (Pe x t):=by
 have h:(((t.k:Nat):Int)==5)=(t.k==5):=by
  by_cases h:t.k=5
  ·rw[h];rfl
  ·rw[show(t.k==5)=false by simp[h]]
   exact beq_eq_false_iff_ne.2 (by omega)
 show(match inP t.pv x.pv,t.pv with
  |some b,.agg (.int .i64 k::_)=>if b||(k==5&&x.kind==2) then(Zg t.pv (Tr.pvs x.kids)).map (! ·) else some false
  |_,_=>none)=_
 rw[sG];show(if inT x t||(((t.k:Nat):Int)==5&&x.kind==2) then(Zg t.pv (Tr.pvs x.kids)).map (! ·) else some false)=_
 rw[h,jY];unfold Pe VW;cases inT x t||(t.k==5&&x.kind==2)<;>rfl
theorem bz(x:Tr):∀ts:List Tk,QW x.pv x.kind (Tr.pvs x.kids) (ts.map Tk.pv)=some ((ts.filter (Pe x)).map Tk.pv)
 |[]=>rfl
 |t::ts=>by
  show(match qa t.pv x.pv x.kind (Tr.pvs x.kids),QW x.pv x.kind (Tr.pvs x.kids) (ts.map Tk.pv) with
   |some true,some l=>some (t.pv::l)
   |some false,some l=>some l
   |_,_=>none)=_
  rw[xD,bz x ts,Dy];cases Pe x t<;>rfl
theorem pE:∀ks:List Tr,(Tr.pvs ks).all TG=true
 |[]=>rfl
 |k::ks=>by
  obtain⟨kd,tx,a,e,b,l⟩:=k;rw[Tr.pvs,Dr,pE ks];cases b<;>rfl
theorem bV{s:Str}{T x:Tr}{ts:List Tk}{b:Bool}(w:x.wf)(ht:ts.length≤1000000000)(hk:x.kids.length≤1000000000):itr 63 [.vptr (srV s T ts b),.vptr x.pv]=some ((ts.filter (Pe x)).map fun t=>[t.pv]):=by
 have hT:Mc T.kp=true:=by obtain⟨k,t,a,e,n,ks⟩:=T;cases n<;>rfl
 have ho:=bz x ts;have hnd:=pE x.kids;have hsm:small (ts.map Tk.pv)=true:=by simp[small,ht]
 have hsk:small (Tr.pvs x.kids)=true:=by rw[Tr.Fj];simp[small,hk]
 have hkp:Ty x.kp=some (Tr.pvs x.kids):=by
  obtain⟨kd,tx,a,e,n,ks⟩:=x;cases n
  ·rfl
  ·have:ks=[]:=w.1 rfl;subst this;rfl
 rw[Tr.H7] at ho ⊢;unfold itr;rw[if_neg (by decide),if_pos rfl]
 show(if Mc T.kp then(match Ty x.kp with
    |some ks=>(match QW (nd x.kind x.text x.st x.en x.kp) x.kind ks (ts.map Tk.pv) with
     |some l=>if small (ts.map Tk.pv)&&(small ks&&ks.all TG) then some (l.map fun x=>[x.Ae]) else none
     |none=>none)
    |none=>none) else none)=_
 rw[if_pos hT,hkp];dsimp only;rw[ho];dsimp only;rw[hsm,hsk,hnd];show some (((ts.filter (Pe x)).map Tk.pv).map fun x=>[x.Ae])=_
 rw[List.map_map];rfl
theorem jO{s:Str}(p:Tk→Bool):∀ts:List Tk,((ts.filter p).flatMap (pcT s)).length≤(ts.flatMap (pcT s)).length
 |[]=>Ag _
 |t::ts=>by
  have:=jO (s:=s) p ts;rw[Dy,Ex,Af];split
  ·rw[Ex,Af];omega
  ·omega
section
variable{s:Str}{ts:List Tk}
mutual
theorem AWE(hs:Srt ts)(h0:∀t∈ts,t.a≤t.e∧(t.k≠5→t.a<t.e))(hl:(ts.flatMap (pcT s)).length≤4294967296):∀x:Tr,x.ins→x.cuts ts→x.no2→x.en≤(s.length:Nat)→x.pb s ts
 |.mk kd tx st en b ks,hi,hc,h2,he=>⟨by
   rw[pK hs h0 (.mk kd tx st en b ks) hi hc h2 he];exact Bf (jO _ ts) hl,fG hs h0 hl ks hi hc.2.2 h2.2 he⟩
theorem fG(hs:Srt ts)(h0:∀t∈ts,t.a≤t.e∧(t.k≠5→t.a<t.e))(hl:(ts.flatMap (pcT s)).length≤4294967296):∀(xs:List Tr) {a e:Int},OB a e xs→Me ts xs→NI xs→e≤(s.length:Nat)→pbs s ts xs
 |[],_,_,_,_,_,_=>trivial
 |x::xs,a,e,hi,hc,h2,he=>by
  obtain⟨i1,i2,i3,i4,i5⟩:=hi;have hle:x.en≤(s.length:Nat):=by omega
  exact⟨AWE hs h0 hl x i4 hc.1 h2.1 hle,fG hs h0 hl xs i5 hc.2 h2.2 he⟩
end
end
mutual

theorem jU{s:Str}{T:Tr}{ts:List Tk}{b:Bool}(hs:s.length<1000000000)(ht:∀t∈ts,t.f≤t.e∧t.e≤s.length)(hl:ts.length≤1000000000):∀x:Tr,x.wf→x.pb s ts→x.nds.length≤400000→∃σ,E 27 [srV s T ts b,x.pv] [] (.str (x.prt s ts)) σ
 |.mk kd tx st en n ks,w,hp,hn=>by
  rw[Tr.nds,Al] at hn;have hk:=Px ks;rw[Tr.prt];have hb:=hp.1;rw[Tr.prt] at hb;exact yA (x:=.mk kd tx st en n ks) hs w (dF hs ht hl ks w.2 hp.2 (by omega)) (bV w hl (by show ks.length≤_;omega)) (fun t h=>ht t (Ck.1 h).1) hb
theorem dF{s:Str}{T:Tr}{ts:List Tk}{b:Bool}(hs:s.length<1000000000)(ht:∀t∈ts,t.f≤t.e∧t.e≤s.length)(hl:ts.length≤1000000000):∀xs:List Tr,Tr.wfs xs→pbs s ts xs→(Fa xs).length≤400000→∀k∈xs,∃σ,E 27 [srV s T ts b,k.pv] [] (.str (k.prt s ts)) σ
 |[],_,_,_,k,h=>by cases h
 |x::xs,w,hp,hn,k,h=>by
  rw[Fa,Af] at hn;rcases AY.1 h with e | h
  ·rw[e];exact jU hs ht hl x w.1 hp.1 (by omega)
  ·exact dF hs ht hl xs w.2 hp.2 (by omega) k h
end
end Go.Abs.Z

namespace Go.Abs.Z
open Go.Proofs Go.RowKit Go.ChangeShapes Go.WideShapes Go.ChangeAt
open Go.Proofs.YtapgnmhobbgmiaaGreatDoor
set_option linter.unusedVariables false
theorem n24:Tryz.prog.cellsOf 24=5:=by kernel_rfl
theorem n22:Tryz.prog.cellsOf 22=1:=by kernel_rfl
theorem n3:Tryz.prog.cellsOf 3=1:=by kernel_rfl
theorem n9:Tryz.prog.cellsOf 9=1:=by kernel_rfl
theorem AWQ{α:Type}{l:List α}(h:l.length=5):∃a b c d e,l=[a,b,c,d,e]:=by
 match l,h with
 |[a,b,c,d,e],_=>exact⟨a,b,c,d,e,rfl⟩
section
variable{H:Type}{enc:TypeId×Value→H}{W:World}{base:Nat}{sp:Nat→Bool}{held:Bool}
theorem kM{fuel:Nat}{cs:List Value}{x:DataW H×List MemPlace}(h:DataW.trod enc Tryz.prog W base sp held fuel 24 cs=some x):
  ∃(n:Nat) (k:Int) (s:ByteArray) (st en:Int) (kv:Value) (y:DataW H×List MemPlace),fuel=n+1∧cs=[.int .i64 k,.string s,.int .i64 st,.int .i64 en,kv]∧
   x.1=.agg [.lit (.int .i64 k),.lit (.string s.data.toList),.lit (.int .i64 st),.lit (.int .i64 en),y.1]∧DataW.trod enc Tryz.prog W base sp held n 22 [kv]=some y:=by
 obtain⟨xs,n,rfl,rfl,hl,hlen,hf⟩:=DataW.trod_struct Tryz.underlying24 h;rw[n24] at hl;obtain⟨a,b,c,d,e,rfl⟩:=AWQ hl;obtain⟨x0,x1,x2,x3,x4,rfl⟩:=AWQ (l:=xs) hlen
 ·have f0:=hf 0 _ rfl;have f1:=hf 1 _ rfl;have f2:=hf 2 _ rfl;have f3:=hf 3 _ rfl;have f4:=hf 4 _ rfl
  ·simp[n3,n9,n22] at f0 f1 f2 f3 f4;obtain⟨k,h0,rfl,_⟩:=DataW.trod_int Tryz.underlying3 f0;obtain⟨s,h1,rfl,_⟩:=DataW.trod_string Tryz.underlying9 f1;obtain⟨st,h2,rfl,_⟩:=DataW.trod_int Tryz.underlying3 f2;obtain⟨en,h3,rfl,_⟩:=DataW.trod_int Tryz.underlying3 f3;cases h0;cases h1;cases h2;cases h3;exact⟨n,k,s,st,en,e,x4,rfl,rfl,rfl,f4⟩
end
theorem tN{W:World}{a:Addr}{m j:Nat}{v:Value}(h:W.cell? ((a.add m).add j)=some v):W.cell? ⟨a.block,a.off+m+j,none⟩=some v∧a.block<W.heap.size∧(m+j=0→a.spot=none):=by
 obtain⟨b,off,spot⟩:=a
 have hb:((Addr.mk b off spot).add m).add j=⟨b,off+m+j,if m+j=0 then spot else none⟩:=by
  unfold Addr.add;by_cases h1:m=0<;>by_cases h2:j=0<;>simp[h1,h2]
 rw[hb] at h;unfold World.cell? at h ⊢;dsimp only at h ⊢
 split at h
 ·rename_i c e f hh
  have hlt:b<W.heap.size:=by
   rcases Bc b W.heap.size with h' | h'
   ·exact h'
   ·rw[Di h'] at hh;cases hh
  refine⟨?_,hlt,fun h0=>?_⟩
  ·by_cases h0:(if m+j=0 then spot else none).isSome=true
   ·rw[if_pos h0] at h;cases h
   ·rw[if_neg h0] at h;simpa using h
  ·rw[if_pos h0] at h;cases spot with
   |none=>rfl
   |some s=>simp at h
 ·cases h
theorem jy{α:Type}{Q:Nat→α→Prop}:∀(n:Nat),(∀i,i<n→∃t,Q i t)→∃l:List α,l.length=n∧∀(i:Nat) (t:α),l[i]?=some t→Q i t
 |0,_=>⟨[],rfl,fun i t h=>by simp at h⟩
 |n+1,h=>by
  obtain⟨l,hl,hq⟩:=jy n fun i hi=>h i (by omega)
  obtain⟨t,ht⟩:=h n (by omega)
  refine⟨l++[t],by simp[hl],fun i u hu=>?_⟩
  rcases Bc i n with hi | hi
  ·rw[Ak (by omega)] at hu;exact hq i u hu
  ·rw[Ao (by omega)] at hu
   have:i - l.length=0:=by
    rcases Em (i - l.length) with h0 | h0
    ·exact h0
    ·rw[BD (by simp;omega)] at hu;cases hu
   rw[this] at hu;cases hu;have:i=n:=by omega
   rw[this];exact ht
theorem yD{W:World}{base n:Nat}{a:Addr}{m:Nat}{vs:List Value}(h:W.cells? base (a.add m) n=some vs):∀(j:Nat) (v:Value),vs[j]?=some v→W.cell? ⟨a.block,a.off+m+j,none⟩=some v∧a.block<W.heap.size∧(m+j=0→a.spot=none):=by
 intro j v hv;unfold World.cells? at h
 split at h
 ·have hl:=mapM_some_length h
  have hj:j<n:=by
   rcases Bc j n with h' | h'
   ·exact h'
   ·rw[BD (by rw[hl];simpa using h')] at hv;cases hv
  have:=mapM_some_get h j j (by simp[hj])
  rw[hv] at this;exact tN this
 ·cases h
theorem kK{W:World}{a:Addr}{len cap size:Nat}{es:List PV}(hl:es.length=len)(hcap:len≤cap)(h0:0<size)(hsz:∀(i:Nat) (e:PV),es[i]?=some e→e.cells.length=size)
  (hat:∀(i:Nat) (e:PV) (j:Nat) (p:PV),es[i]?=some e→e.cells[j]?=some p→∃v,W.cell? ⟨a.block,a.off+i * size+j,none⟩=some v∧Rep (IW W) W v p∧a.block<W.heap.size∧(i * size+j=0→a.spot=none)) :
  Rep (IW W) W (.slice (some a) len cap) (.slice false size es):=by
 refine .slice (fun i j=>(W.cell? ⟨a.block,a.off+i * size+j,none⟩).getD undef) hl.symm hcap ?_ hsz ?_ ?_ ?_
 ·intro hne;cases es with
  |nil=>exact absurd rfl hne
  |cons t ts=>
   have h5:(0:Nat) < t.cells.length:=by rw[hsz 0 t rfl];exact h0
   obtain⟨_,_,_,_,hsp⟩:=hat 0 t 0 _ rfl (Ah h5);exact hsp (by omega)
 ·intro i e j p he hp;obtain⟨_,_,_,hlt,_⟩:=hat i e j p he hp;exact hlt
 ·intro i e j p he hp;obtain⟨v,hv,_⟩:=hat i e j p he hp;rw[hv];rfl
 ·intro i e j p he hp;obtain⟨v,hv,hr,_⟩:=hat i e j p he hp;rw[hv];exact hr
theorem ng:∀{ks:List Tr},(∀(i:Nat) (t:Tr),ks[i]?=some t→t.wf)→Tr.wfs ks
 |[],_=>trivial
 |t::ts,h=>⟨h 0 t rfl,ng fun i u hu=>h (i+1) u (by simpa using hu)⟩
theorem AzQ{I:Imm}{w:World}{k:Int}{s:ByteArray}{st en:Int}{kv:Value}{n:Bool}{ks:List Tr}(h:Rep I w kv (if n then .nils else .slice false 5 (Tr.pvs ks))):Rep I w (Gg k s st en kv) (Tr.mk k s.data.toList st en n ks).pv:=by
 rw[Tr.pv];refine .agg rfl fun i p hp=>?_
 match i with
 |0=>simp at hp;subst hp;exact .int _ _
 |1=>simp at hp;subst hp;exact .str _
 |2=>simp at hp;subst hp;exact .int _ _
 |3=>simp at hp;subst hp;exact .int _ _
 |4=>simp at hp;subst hp;exact h
 |i+5=>simp at hp
theorem bI{H:Type}:∀(ks:List Tr) (es:List (DataW H)),ks.length=es.length→(∀(i:Nat) (t:Tr) (e:DataW H),ks[i]?=some t→es[i]?=some e→t.nds.length≤Rows.uptoBulk e)→(Fa ks).length≤Rows.uptoBulkAll es
 |[],_,_,_=>by simp[Fa]
 |k::ks,[],h,_=>by simp at h
 |k::ks,e::es,h,hq=>by
  have h1:=hq 0 k e rfl rfl;have h2:=bI ks es (by simpa using h) fun i t e' ht he=>hq (i+1) t e' (by simpa using ht) (by simpa using he)
  simp only[Fa,Af,Rows.uptoBulkAll];omega
theorem kL{H:Type}{enc:TypeId×Value→H}{W:World}{base:Nat}{sp:Nat→Bool}{held:Bool}:∀(fuel:Nat) (cs:List Value) (x:DataW H×List MemPlace),DataW.trod enc Tryz.prog W base sp held fuel 24 cs=some x→
  ∃(T:Tr) (k:Int) (s:ByteArray) (st en:Int) (kv:Value),cs=[.int .i64 k,.string s,.int .i64 st,.int .i64 en,kv]∧Rep (IW W) W kv T.kp∧T.kind=k∧T.text=s.data.toList∧T.st=st∧T.en=en∧T.wf∧T.nds.length≤Rows.uptoBulk x.1:=by
 intro fuel
 induction fuel using Nat.strongRecOn with
 |_ fuel ih=>
  intro cs x h;obtain⟨n,k,s,st,en,kv,y,hn,rfl,hx,hy⟩:=kM h;subst hn;rcases DataW.trod_slice Tryz.underlying22 hy with⟨hkv,rfl⟩ | ⟨a,len,cap,elems,rest,m,rfl,hkv,rfl,_,hcap,_,hlen,hel,_,_⟩
  ·cases hkv;refine⟨.mk k s.data.toList st en true [],k,s,st,en,_,rfl,.nils,rfl,rfl,rfl,rfl,⟨fun _=>rfl,trivial⟩,?_⟩
   rw[hx];simp[Tr.nds,Fa,Rows.uptoBulk]
  ·cases hkv
   have hall:∀i,i<len→∃t:Tr,∃(k:Int) (s:ByteArray) (st en:Int) (kv:Value) (e:DataW H×List MemPlace),elems[i]?=some e∧W.cells? base (a.add (i * 5)) 5=some [.int .i64 k,.string s,.int .i64 st,.int .i64 en,kv]∧
     Rep (IW W) W kv t.kp∧t.kind=k∧t.text=s.data.toList∧t.st=st∧t.en=en∧t.wf∧t.nds.length≤Rows.uptoBulk e.1:=by
    intro i hi;have hi':=hel i hi;rw[n24] at hi';have hsome:elems[i]?=some (elems[i]'(by omega)):=Ah (by omega)
    rw[hsome] at hi';obtain⟨cs',hcs,htr⟩:=AL.1 hi';obtain⟨T,k,s,st,en,kv,rfl,h1⟩:=ih m (by omega) cs' _ htr
    exact⟨T,k,s,st,en,kv,_,hsome,hcs,h1⟩
   obtain⟨ks,hkl,hks⟩:=jy len hall
   have hget:∀(i:Nat) (e:PV),(Tr.pvs ks)[i]?=some e→∃t,ks[i]?=some t∧e=t.pv:=by
    intro i e he;rw[Tr.Fj,Am] at he;obtain⟨t,ht,rfl⟩:=Ac.1 he;exact⟨t,ht,rfl⟩
   refine⟨.mk k s.data.toList st en false ks,k,s,st,en,_,rfl,?_,rfl,rfl,rfl,rfl,⟨fun h=>(by cases h),?_⟩,?_⟩
   ·refine kK (by rw[Tr.Fj,Aq,hkl]) hcap (by decide) (fun i e he=>?_) fun i e j p he hp=>?_
    ·obtain⟨t,_,rfl⟩:=hget i e he;exact Tr.Nh t
    ·obtain⟨t,ht,rfl⟩:=hget i e he;obtain⟨k,s,st,en,kv,e',_,hcs,hrep,q1,q2,q3,q4,_⟩:=hks i t ht;have hc:=yD hcs;rw[Tr.H7] at hp;simp only[nd,PV.cells] at hp
     match j,hp with
     |0,hp=>cases hp;exact⟨_,(hc 0 _ rfl).1,q1▸.int _ _,(hc 0 _ rfl).2.1,(hc 0 _ rfl).2.2⟩
     |1,hp=>cases hp;exact⟨_,(hc 1 _ rfl).1,q2▸.str _,(hc 1 _ rfl).2.1,(hc 1 _ rfl).2.2⟩
     |2,hp=>cases hp;exact⟨_,(hc 2 _ rfl).1,q3▸.int _ _,(hc 2 _ rfl).2.1,(hc 2 _ rfl).2.2⟩
     |3,hp=>cases hp;exact⟨_,(hc 3 _ rfl).1,q4▸.int _ _,(hc 3 _ rfl).2.1,(hc 3 _ rfl).2.2⟩
     |4,hp=>cases hp;exact⟨_,(hc 4 _ rfl).1,hrep,(hc 4 _ rfl).2.1,(hc 4 _ rfl).2.2⟩
     |j+5,hp=>simp at hp
   ·exact ng fun i t ht=>by
     obtain⟨_,_,_,_,_,_,_,_,_,_,_,_,_,hw,_⟩:=hks i t ht;exact hw
   ·have hb:=bI ks (elems.map (·.1)) (by simp[hkl,hlen]) fun i t e ht he=>by
     obtain⟨_,_,_,_,_,e',he',_,_,_,_,_,_,_,hl⟩:=hks i t ht;rw[Am,he'] at he;cases he;exact hl
    rw[hx];simp only[Tr.nds,Al,Rows.uptoBulk,Rows.uptoBulkAll];omega
theorem qK{v:Value}{k:Int}{s:ByteArray}{st en:Int}{kv:Value}(h:v.cells.toList=[.int .i64 k,.string s,.int .i64 st,.int .i64 en,kv]):v=Gg k s st en kv:=by
 cases v with
 |agg cs=>
  simp only[Value.cells] at h;rw[Gg,←Cj.1 (show cs.toList=#[Value.int .i64 k,.string s,.int .i64 st,.int .i64 en,kv].toList from h)]
 |_=>simp[Value.cells] at h
theorem o8{H:Type}{enc:TypeId×Value→H}{W:World}{base:Nat}{sp:Nat→Bool}{held:Bool}{v:Value}{d:DataW H}{p:List MemPlace}(h:DataW.Trod enc Tryz.prog W base sp held 24 v d p):
  ∃T:Tr,Rep (IW W) W v T.pv∧T.wf∧T.nds.length≤Rows.uptoBulk d:=by
 obtain⟨n,hn⟩:=h;obtain⟨T,k,s,st,en,kv,hc,hr,q1,q2,q3,q4,hw,hl⟩:=kL n _ _ hn;rw[qK hc];refine⟨T,?_,hw,hl⟩
 obtain⟨kd,tx,a,e,nb,ks⟩:=T;simp only[Tr.kind,Tr.text,Tr.st,Tr.en] at q1 q2 q3 q4;subst q1 q2 q3 q4;exact AzQ hr
theorem fo:Tryz.prog.readableRec 24=true:=by kernel_rfl
theorem AZX:24<Tryz.prog.types.size:=of_decide_eq_true (by kernel_rfl)
theorem mF{H:Type}{enc:TypeId×Value→H}{W W':World}{v:Value}{d:DataW H}{p:List MemPlace}(h:DataW.Trod enc Tryz.prog W 0 (fun _=>true) true 24 v d p)(hb:Below W.heap.size W W')(hlt:∀x∈p,x.block<W.heap.size)
  (sp:Nat→Bool) (hs:∀x∈p,sp x.block=true):DataW.Trod enc Tryz.prog W' 0 sp true 24 v d p:=
 WideElems.Trod_stays bv fo AZX h (fun x hx=>hb.same (hlt x hx)) hs
end Go.Abs.Z

namespace Go.Abs.Z
open Pg
set_option linter.unusedVariables false
def RsK(v:Rs):Prop:=v.1.no2∧NK v.2
def NTK:NT→Prop
 |.lp _ _ x=>x.no2
 |.tl _ acc=>NK acc
 |.sts acc=>NK acc
 |.pg acc=>NK acc
 |_=>True
def KdP:Pg→Prop
 |.ret v=>RsK v
 |.look f=>∀a b k,KdP (f a b k)
 |.read p=>KdP p
 |.report _ _ p=>KdP p
 |.call x f=>NTK x∧∀r,RsK r→KdP (f r)
theorem TA{w:Nat→Wd}{c:NT→Nat→List AD→K4}(hc:∀x k D v k1 D1,c x k D=some (v,k1,D1)→NTK x→RsK v):∀(p:Pg) {k:Nat} {D:List AD} {v:Rs} {k1:Nat} {D1:List AD},KdP p→LB w c p k D=some (v,k1,D1)→RsK v
 |.ret v,k,D,_,_,_,h,e=>by cases e;exact h
 |.look f,k,D,v,k1,D1,h,e=>TA hc (f _ _ _) (h _ _ _) e
 |.read p,k,D,v,k1,D1,h,e=>by
  rw[LB] at e
  split at e
  ·cases e
  ·exact TA hc p h e
 |.report c t p,k,D,v,k1,D1,h,e=>TA hc p h e
 |.call x f,k,D,v,k1,D1,h,e=>by
  obtain⟨⟨r,k2,D2⟩,h1,h2⟩:=AL.1 e;exact TA hc (f r) (h.2 r (hc _ _ _ _ _ _ h1 h.1)) h2
abbrev GK(g:AT→Pg):Prop:=∀x,x.no2→KdP (g x)
abbrev GL(g:List AT→Pg):Prop:=∀l,NK l→KdP (g l)
theorem bT:(default:Rs).1.no2:=⟨by decide,trivial⟩
theorem EJ{ws:List (List UInt8)}{p q:Pg}(h:KdP p)(h':KdP q):KdP (ifW ws p q):=fun a b k=>by
 show KdP (if _ then p else q)
 split<;>assumption
theorem Pz{n:Nat}{p q:Pg}(h:KdP p)(h':KdP q):KdP (ifK n p q):=fun a b k=>by
 show KdP (if _ then p else q)
 split<;>assumption
theorem Gb{g:Nat→Pg}(h:∀k,KdP (g k)):KdP (mrk g):=fun _ _ k=>h k
theorem Jz{x:List UInt8}{p:Pg}(h:KdP p):KdP (xp x p):=EJ h h
theorem TB{g:List UInt8→Pg}(h:∀x,KdP (g x)):KdP (rd g):=fun a _ _=>h a.2
theorem YO{g:List UInt8→Pg}(h:∀x,KdP (g x)):KdP (nm g):=Pz (TB h) (h [])
theorem AWU{g:List UInt8→Pg}(h:∀x,KdP (g x)):KdP (num g):=Pz (TB fun x=>h _) (h [])
theorem Kt{kd:Nat}{tx:List UInt8}{f:Nat}{b:Bool}{ks:List AT}{g:AT→Pg}(h2:kd≠2)(hk:NK ks)(h:GK g):KdP (bd kd tx f b ks g):=fun _ _ k=>h _ ⟨h2,hk⟩
theorem H9{kd:Nat}{tx:List UInt8}{f:Nat}{ks:List AT}(h2:kd≠2)(hk:NK ks):KdP (nod kd tx f ks):=Kt h2 hk fun x hx=>⟨hx,trivial⟩
theorem JK{x:NT}{g:AT→Pg}(hx:NTK x)(h:GK g):KdP (cl x g):=⟨hx,fun r hr=>h _ hr.1⟩
theorem NZ{x:NT}(hx:NTK x):KdP (lst x):=⟨hx,fun r hr=>hr⟩
theorem rU{g:AT→Pg}(h:GK g):KdP (nop g):=Gb fun f=>Kt (by decide) trivial h
theorem gy{g:AT→Pg}(h:GK g):KdP (miss g):=Gb fun f=>Kt (by decide) trivial h
theorem L9{x:AT}(h:x.no2):NK [x]:=⟨h,trivial⟩
theorem VY{x y:AT}(h:x.no2)(h':y.no2):NK [x,y]:=⟨h,h',trivial⟩
theorem Py{x y z:AT}(h:x.no2)(h':y.no2)(h3:z.no2):NK [x,y,z]:=⟨h,h',h3,trivial⟩
theorem Oz{p:Pg}(h:KdP p):KdP (.read p):=h
theorem zn{c:Nat}{t:List UInt8}{p:Pg}(h:KdP p):KdP (.report c t p):=h
theorem xZ{g:AT→Pg}(h:GK g):KdP (written g):=
 EJ (Oz (Gb fun f=>EJ (Oz (EJ (Oz (AWU fun n=>Jz (Kt (by decide) trivial h))) (Kt (by decide) trivial h)))
  (EJ (Oz (Kt (by decide) trivial h)) (Pz (TB fun x=>Kt (by decide) trivial h) (zn (gy h)))))) (rU h)
theorem yf{g:AT→Pg}(h:GK g):KdP (Qz g):=Gb fun f=>YO fun x=>Jz (EJ (Gb fun f2=>TB fun t=>Kt (by decide) trivial fun y hy=>Kt (by decide) (L9 hy) h)
 (gy fun y hy=>Kt (by decide) (L9 hy) h))
theorem yc{g:AT→Pg}(h:GK g):KdP (Qo g):=Gb fun f=>EJ (YO fun x=>xZ fun t ht=>Kt (by decide) (L9 ht) h) (YO fun x=>xZ fun t ht=>Kt (by decide) (L9 ht) h)
theorem rV:∀(e:El) {g:AT→Pg},GK g→KdP (Wn e g)
 |.fd,g,h=>yf h
 |.pa,g,h=>yc h
 |.ex,g,h=>JK (x:=.ex 1) trivial h
theorem YP{e:El}{g:List AT→Pg}(h:GL g):KdP (Pp e g):=rV e fun x hx=>⟨L9 hx,fun r hr=>h _ hr.2⟩
theorem rQ{g:AT→Pg}(h:GK g):KdP (O5 g):=Gb fun f=>YO fun x=>Jz (YP fun l hl=>Jz (Kt (by decide) hl h))
theorem rR{g:AT→Pg}(h:GK g):KdP (Pb g):=Gb fun f=>Jz (EJ (Jz (Kt (by decide) trivial h)) (YP fun l hl=>Jz (Kt (by decide) hl h)))
theorem AwM{g:AT→Pg}(h:GK g):KdP (aZ g):=Gb fun f=>YO fun x=>rR fun a ha=>xZ fun t ht=>JK (x:=.bk) trivial fun b hb=>Kt (by decide) (Py ha ht hb) h
theorem rX{g:List AT→Pg}(h:GL g):KdP (Uy g):=EJ (Jz (h [] trivial)) (YP fun l hl=>Jz (h l hl))
theorem zm{g:AT→Pg}(h:GK g):KdP (Ja g):=Gb fun f=>YO fun x=>Kt (by decide) trivial h
theorem jI{g:AT→Pg}(h:GK g):KdP (Ow g):=Gb fun f=>zm fun v hv=>EJ (JK (x:=.ex 1) trivial fun y hy=>Jz (Kt (by decide) (VY hv hy) h))
 (EJ (YO fun x=>Kt (by decide) (L9 hv) h) (h v hv))
theorem VZ{x:AT}(h:x.no2):KdP (.ret (x,[])):=⟨h,trivial⟩
theorem AWV:KdP q9:=Gb fun f=>JK (x:=.ex 5) trivial fun x hx=>EJ (TB fun o=>JK (x:=.ex 5) trivial fun y hy=>H9 (by decide) (VY hx hy)) (VZ hx)
theorem AwN:KdP bi:=Gb fun f=>Pz (TB fun x=>H9 (by decide) trivial) (EJ (TB fun x=>H9 (by decide) trivial) fun a b k=>by
 show KdP (if _ then _ else _)
 split
 ·exact TB fun x=>rX fun l hl=>H9 (by decide) hl
 ·split
  ·exact jI fun x hx=>VZ hx
  ·exact EJ (YP fun l hl=>Jz (H9 (by decide) hl)) (EJ (Jz (zm fun v hv=>Jz (H9 (by decide) (L9 hv))))
    (EJ (JK (x:=.ex 1) trivial fun x hx=>Jz (VZ hx)) (gy fun x hx=>VZ hx))))
theorem Bk8:KdP svP:=Gb fun f=>YO fun x=>xZ fun t ht=>Jz (JK (x:=.ex 1) trivial fun v hv=>Jz (H9 (by decide) (VY ht hv)))
theorem x8:KdP mZ:=Gb fun f=>JK (x:=.ex 1) trivial fun c hc=>JK (x:=.bk) trivial fun b hb=>H9 (by decide) (VY hc hb)
theorem AWX:KdP AwV:=Gb fun f=>YO fun x=>Jz (JK (x:=.ex 1) trivial fun a ha=>Jz (JK (x:=.ex 1) trivial fun c hc=>JK (x:=.bk) trivial fun b hb=>H9 (by decide) (Py ha hc hb)))
theorem rP:KdP Xb:=Gb fun f=>fun a b k=>by
 show KdP (if _ then _ else _)
 split
 ·exact JK (x:=.ex 1) trivial fun x hx=>Jz (H9 (by decide) (L9 hx))
 ·exact rU fun x hx=>Jz (H9 (by decide) (L9 hx))
theorem rW:KdP Zb:=Gb fun f=>JK (x:=.ex 1) trivial fun x hx=>Jz (H9 (by decide) (L9 hx))
theorem rO:KdP WO:=Gb fun f=>fun a b k=>by
 show KdP (if _ then _ else _)
 split
 ·exact TB fun x=>rX fun l hl=>Jz (H9 (by decide) hl)
 ·exact jI fun x hx=>Jz (JK (x:=.ex 1) trivial fun y hy=>Jz (H9 (by decide) (VY hx hy)))
theorem Qv:KdP (.ret default):=⟨bT,trivial⟩
theorem jJ{acc:List AT}(h:NK acc):KdP (.ret (default,acc)):=⟨bT,h⟩
theorem xY:∀x:NT,NTK x→KdP (prog x)
 |.ex L,_=>by
  by_cases h3:L=3
  ·subst h3;exact Gb fun f=>EJ (JK (x:=.ex 3) trivial fun x hx=>H9 (by decide) (L9 hx)) AWV
  ·by_cases h7:L=7
   ·subst h7;exact Gb fun f=>EJ (JK (x:=.ex 7) trivial fun x hx=>H9 (by decide) (L9 hx)) AwN
   ·have e:prog (.ex L)=Pg.mrk fun f=>Pg.cl (.ex (L+1)) fun x=>Pg.lst (.lp L f x):=by
     rw[prog]
     ·exact fun h=>h3 h
     ·exact fun h=>h7 h
    rw[e];exact Gb fun f=>JK (x:=.ex (L+1)) trivial fun x hx=>NZ (x:=.lp L f x) hx
 |.lp L f x,hx=>EJ (TB fun o=>JK (x:=.ex (L+1)) trivial fun y hy=>Kt (by decide) (VY hx hy) fun z hz=>NZ (x:=.lp L f z) hz) (VZ hx)
 |.tl e acc,ha=>EJ (rV e fun x hx=>NZ (x:=.tl e (acc++[x])) (JS ha hx)) (jJ ha)
 |.bk,_=>Gb fun f=>EJ (Oz ⟨trivial,fun r hr=>Jz (H9 (by decide) hr.2)⟩) (zn<|Kt (by decide) trivial fun x hx=>VZ hx)
 |.sts acc,ha=>EJ (jJ ha) (Pz (jJ ha) (JK (x:=.st) trivial fun x hx=>NZ (x:=.sts (acc++[x])) (JS ha hx)))
 |.st,_=>EJ Bk8 (EJ (NZ (x:=.br) trivial) (EJ x8 (EJ AWX (EJ rP (EJ rW (Pz rO
   (Gb fun f=>⟨trivial,fun _ _=>H9 (by decide) trivial⟩)))))))
 |.br,_=>Gb fun f=>Oz<|JK (x:=.ex 1) trivial fun c hc=>JK (x:=.bk) trivial fun b hb=>EJ (Oz<|EJ (JK (x:=.br) trivial fun o ho=>H9 (by decide) (Py hc hb ho)) (JK (x:=.bk) trivial fun o ho=>H9 (by decide) (Py hc hb ho)))
   (rU fun o ho=>H9 (by decide) (Py hc hb ho))
 |.sk f,_=>Pz Qv (Gb fun k=>by
   show KdP (if _ then _ else _)
   have key:KdP (rd fun x=>if x=[59] then .ret default else lst (.sk f)):=TB fun x=>by
    show KdP (if _ then _ else _)
    split
    ·exact Qv
    ·exact NZ (x:=.sk f) trivial
   split
   ·exact EJ Qv key
   ·exact EJ Qv key)
 |.sp,_=>Pz Qv (EJ Qv (NZ (x:=.sp) trivial))
 |.pg acc,ha=>Pz (jJ ha) (EJ (rQ fun x hx=>NZ (x:=.pg (acc++[x])) (JS ha hx)) (EJ (AwM fun x hx=>NZ (x:=.pg (acc++[x])) (JS ha hx))
   (Gb fun f=>⟨trivial,fun _ _=>Kt (by decide) trivial fun x hx=>NZ (x:=.pg (acc++[x])) (JS ha hx)⟩)))
theorem AWT{w:Nat→Wd}:∀(n:Nat) (x:NT) (k:Nat) (D:List AD) (v:Rs) (k1:Nat) (D1:List AD),runN w n x k D=some (v,k1,D1)→NTK x→RsK v
 |0,x,k,D,v,k1,D1,h,_=>by cases h
 |n+1,x,k,D,v,k1,D1,h,hx=>TA (AWT n) (prog x) (xY x hx) h
end Go.Abs.Z
