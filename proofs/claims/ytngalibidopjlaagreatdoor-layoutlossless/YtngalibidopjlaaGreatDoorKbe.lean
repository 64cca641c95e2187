/- A part of the proof: D16 D17 D18 D26 Y1 Y2 Y3 Y4. -/
import Derived.Test.YtngalibidopjlaaGreatDoorKbd
import Derived.Test.YtngalibidopjlaaGreatDoorKbb
import Derived.Test.YtngalibidopjlaaGreatDoorKbc
import Derived.Test.YtngalibidopjlaaGreatDoorKba

set_option linter.unusedVariables false
set_option linter.unusedSimpArgs false
namespace Go.Abs.Z
open Go.Proofs Go.RowKit
section
variable{H T:Sto}{g n:Nat}
structure Kq(l r:List Dg):Prop where
 perm:r.Perm l
 keep:∀k,fk k r=fk k l
theorem Sd.kp{l r:List Dg}(h:Sd l r):Kq l r:=⟨h.perm,h.keep⟩
theorem Kq.refl(l:List Dg):Kq l l:=⟨.refl _,fun _=>rfl⟩
theorem Kq.trans{l m r:List Dg}(h:Kq l m)(h':Kq m r):Kq l r:=⟨h'.perm.trans h.perm,fun k=>(h'.keep k).trans (h.keep k)⟩
theorem Kq.mid{P L R Q:List Dg}(h:Kq L R):Kq (P++L++Q) (P++R++Q):=⟨perm_mid h.perm,keep_mid h.keep⟩
theorem Kq.len{l r:List Dg}(h:Kq l r):r.length=l.length:=h.perm.length_eq
theorem Kq.bd{l r:List Dg}(h:Kq l r)(hb:Bd l):Bd r:=fun d hd=>hb d (h.perm.mem_iff.1 hd)
theorem seg_ge{l:List Dg}{x y:Nat}(h:l.length≤x):seg l x y=[]:=by unfold seg;rw[List.drop_eq_nil_of_le h,List.take_nil]
theorem seg_all{l:List Dg}{x y:Nat}(h:l.length≤x+y):seg l x y=l.drop x:=by unfold seg;exact List.take_of_length_le (by rw[List.length_drop];omega)
theorem seg_mid{P R Q:List Dg}{x y:Nat}(hx:x=P.length)(hy:y=R.length):seg (P++R++Q) x y=R:=by
 subst hx hy;unfold seg;rw[List.append_assoc,List.drop_left,List.take_left]
theorem asc_nil:Asc []:=List.Pairwise.nil
def Bl(w a:Nat)(l:List Dg):Prop:=∀q,q * w+w≤a→Asc (seg l (q * w) w)
def Ab(w a:Nat)(l:List Dg):Prop:=∀q,a≤q * w→Asc (seg l (q * w) w)
theorem Bl.step{w a q0:Nat}{P L R Q:List Dg}(h:Bl w a (P++L++Q))(ha:a=P.length)(hq:a=q0 * w)(hL:L.length=w)(hR:Asc R)(he:R.length=L.length):Bl w (a+w) (P++R++Q):=by
 intro q hq';by_cases c:q * w+w≤a
 ·have:=h q c;rw[AXG (by omega)] at this ⊢;exact this
 ·have:q=q0:=by
   by_cases hw:w=0
   ·subst hw;simp at c
   ·have h1:q≤q0:=by
     have:q * w≤q0 * w:=by omega
     exact Nat.le_of_mul_le_mul_right this (by omega)
    have h2:q0<q+1:=by
     have:q0 * w<(q+1) * w:=by rw[Nat.succ_mul];omega
     exact Nat.lt_of_mul_lt_mul_right this
    omega
  subst this;rw[seg_mid (by omega) (by omega)];exact hR
theorem Ab.step{w a b:Nat}{P L R Q:List Dg}(h:Ab w a (P++L++Q))(ha:a=P.length)(hb:b=a+L.length)(he:R.length=L.length):Ab w b (P++R++Q):=by
 intro q hq;have:=h q (by omega)
 rw[seg_right (R:=R) (R':=L) he (by omega)];exact this
theorem AJ4(hn:n<1000000000)(Ds0:List Dg)(hB:Bd Ds0)(hl:Ds0.length=n):∀(z i:Nat) (Ds:List Dg) {a b:Nat},n - a≤z→a=i * 20→b=a+20→a≤n→Kq Ds0 Ds→Bl 20 a Ds→
  ∃Ds' i' a' b',LL a176 0 [(0,some (.arr H.length g 0 n 5)),(1,some (N n)),(2,some fnc),(6,some (I 20)),(7,some (N a)),(8,some (N b))] (aS H T g Ds) (.exit 0) [(0,some (.arr H.length g 0 n 5)),(1,some (N n)),(2,some fnc),(6,some (I 20)),(7,some (N a')),(8,some (N b'))] (aS H T g Ds')∧a'=i' * 20∧a'≤n∧n<a'+20∧Kq Ds0 Ds'∧Bl 20 a' Ds'
 |z,i,Ds,a,b,hz,ha,hb,han,hk,hs=>by
  by_cases c:b≤n
  ·have hlen:=hk.len;obtain⟨P,Q,e,eP,eS⟩:=split3 Ds (x:=a) (y:=20) (by omega)
   generalize seg Ds a 20=L at e eS;subst e;obtain⟨R,hE,hS⟩:=e149 (H:=H) (T:=T) (g:=g) hn (P:=P) (L:=L) (Q:=Q) (a:=a) (b:=b) (by omega) (by omega) ((hk.bd hB).mono fun d hd=>by simp[hd]) (by omega)
   match z with
   |0=>omega
   |z+1=>
    have hst:Bl 20 (a+20) (P++R++Q):=hs.step (by omega) ha (by omega) hS.asc hS.len
    obtain⟨Ds',i',a',b',hL,x⟩:=AJ4 hn Ds0 hB hl z (i+1) (P++R++Q) (a:=b) (b:=b+20) (by omega) (by omega) rfl (by omega) (hk.trans hS.kp.mid) (by rw[hb];exact hst)
    exact⟨Ds',i',a',b',r136_l0_next1 (by omega) hE (by omega) hL,x⟩
  ·exact⟨Ds,i,a,b,r136_l0_out1 (by omega),ha,han,by omega,hk,hs⟩
theorem merges(hn:n<1000000000)(Ds0:List Dg)(hB:Bd Ds0)(hl:Ds0.length=n){w:Nat}(hw:0<w)(hwn:w<n):∀(z i:Nat) (Ds:List Dg) {a b:Nat},n - a≤z→a=i * (2 * w)→b=a+2 * w→a≤n→Kq Ds0 Ds→Bl (2 * w) a Ds→Ab w a Ds→
  ∃Ds' i' a' b',LL a176 2 [(0,some (.arr H.length g 0 n 5)),(1,some (N n)),(2,some fnc),(6,some (N w)),(7,some (N a)),(8,some (N b))] (aS H T g Ds) (.exit 4) [(0,some (.arr H.length g 0 n 5)),(1,some (N n)),(2,some fnc),(6,some (N w)),(7,some (N a')),(8,some (N b'))] (aS H T g Ds')∧a'=i' * (2 * w)∧a'≤n∧n<a'+2 * w∧Kq Ds0 Ds'∧Bl (2 * w) a' Ds'∧Ab w a' Ds'
 |z,i,Ds,a,b,hz,ha,hb,han,hk,hs,hab=>by
  by_cases c:b≤n
  ·have hlen:=hk.len;have aw:a=(2 * i) * w:=by rw[ha,←Nat.mul_assoc,Nat.mul_comm i 2]
   obtain⟨P,Q,e,eP,eS⟩:=split3 Ds (x:=a) (y:=w+w) (by omega)
   rw[seg_cat] at e eS;have sA:=hab (2 * i) (by omega)
   have sB:=hab (2 * i+1) (by rw[Nat.succ_mul];omega)
   rw[←aw] at sA;rw[Nat.succ_mul,←aw] at sB;have lA:(seg Ds a w).length=w:=by unfold seg;rw[List.length_take,List.length_drop];omega
   have lB:(seg Ds (a+w) w).length=w:=by unfold seg;rw[List.length_take,List.length_drop];omega
   generalize seg Ds a w=A at *;generalize seg Ds (a+w) w=B at *;subst e;obtain⟨R,hE,hS⟩:=e150 (H:=H) (T:=T) (g:=g) hn _ P A B Q (a:=a) (m:=a+w) (b:=b) (Nat.le_refl _) (fun h=>by rw[h] at lA;simp at lA;omega) (fun h=>by rw[h] at lB;simp at lB;omega) (by omega) (by omega) (by omega) sA sB (by rw[show P++A++B++Q=P++(A++B)++Q by simp];exact hk.bd hB) (by rw[show P++A++B++Q=P++(A++B)++Q by simp];omega)
   match z with
   |0=>omega
   |z+1=>
    have hst:Bl (2 * w) (a+2 * w) (P++R++Q):=hs.step (by omega) ha (by omega) hS.asc hS.len
    have hat:Ab w b (P++R++Q):=hab.step (by omega) (by omega) hS.len
    obtain⟨Ds',i',a',b',hL,x⟩:=merges hn Ds0 hB hl hw hwn z (i+1) (P++R++Q) (a:=b) (b:=b+2 * w) (by omega) (by rw[Nat.succ_mul];omega) rfl (by omega) (hk.trans hS.kp.mid) (by rw[hb];exact hst) hat
    exact⟨Ds',i',a',b',r136_l2_next1 (by omega) (by omega) (by omega) (by rw[show P++(A++B)++Q=P++A++B++Q by simp];exact hE) (by omega) (by omega) (by omega) hL,x⟩
  ·exact⟨Ds,i,a,b,r136_l2_out1 (by omega),ha,han,by omega,hk,hs,hab⟩
theorem Bl.up{w a i:Nat}{l:List Dg}(h:Bl w a l)(ha:a=i * w)(hl:l.length<a+w)(hd:Asc (l.drop a)):Ab w 0 l:=by
 intro q _;by_cases c:q * w+w≤a
 ·exact h q c
 ·by_cases hq:l.length≤q * w
  ·rw[seg_ge hq];exact asc_nil
  ·have:q=i:=by
    have h1:q<i+1:=by
     have:q * w<(i+1) * w:=by rw[Nat.succ_mul];omega
     exact Nat.lt_of_mul_lt_mul_right this
    have h2:i<q+1:=by
     have:i * w<(q+1) * w:=by rw[Nat.succ_mul];omega
     exact Nat.lt_of_mul_lt_mul_right this
    omega
   subst this;rw[←ha,seg_all (by omega)];exact hd
theorem grow(hn:n<1000000000)(Ds0:List Dg)(hB:Bd Ds0)(hl:Ds0.length=n):∀(z:Nat) (Ds:List Dg) {w m2 m3:Nat},n - w≤z→0<w→Kq Ds0 Ds→Ab w 0 Ds→
  ∃Ds' m1' m2' m3',LL a176 1 [(0,some (.arr H.length g 0 n 5)),(1,some (N n)),(2,some fnc),(6,some (N w)),(7,some (N m2)),(8,some (N m3))] (aS H T g Ds) (.exit 2) [(0,some (.arr H.length g 0 n 5)),(1,some (N n)),(2,some fnc),(6,some (N m1')),(7,some (N m2')),(8,some (N m3'))] (aS H T g Ds')∧Sd Ds0 Ds'
 |z,Ds,w,m2,m3,hz,hw,hk,hab=>by
  have hlen:=hk.len;by_cases c:w<n
  ·obtain⟨Ds1,i,a,b,hL,ha,han,hna,hk1,hs1,hab1⟩:=merges (H:=H) (T:=T) (g:=g) hn Ds0 hB hl hw c n 0 Ds (a:=0) (b:=2 * w) (by omega) (by omega) (by omega) (by omega) hk (fun q hq=>by omega) hab
   have hlen1:=hk1.len
   match z with
   |0=>omega
   |z+1=>
    have aw:a=(2 * i) * w:=by rw[ha,←Nat.mul_assoc,Nat.mul_comm i 2]
    have sA:=hab1 (2 * i) (by omega)
    have sB:=hab1 (2 * i+1) (by rw[Nat.succ_mul];omega)
    rw[←aw] at sA;rw[Nat.succ_mul,←aw] at sB;by_cases c2:a+w<n
    ·rw[seg_all (by omega)] at sB
     have e:Ds1=Ds1.take a++seg Ds1 a w++Ds1.drop (a+w)++[]:=by
      unfold seg;rw[List.append_nil,List.append_assoc];have:(Ds1.drop a).take w++Ds1.drop (a+w)=Ds1.drop a:=by rw[←List.drop_drop,List.take_append_drop]
      rw[this,List.take_append_drop]
     have lP:(Ds1.take a).length=a:=by rw[List.length_take];omega
     have lA:(seg Ds1 a w).length=w:=by unfold seg;rw[List.length_take,List.length_drop];omega
     have lB:(Ds1.drop (a+w)).length=n - (a+w):=by rw[List.length_drop];omega
     generalize Ds1.take a=P at *;generalize seg Ds1 a w=A at *;generalize Ds1.drop (a+w)=B at *;subst e;obtain⟨R,hE,hS⟩:=e150 (H:=H) (T:=T) (g:=g) hn _ P A B [] (a:=a) (m:=a+w) (b:=n) (Nat.le_refl _) (fun h=>by rw[h] at lA;simp at lA;omega) (fun h=>by rw[h] at lB;simp at lB;omega) (by omega) (by omega) (by omega) sA sB (hk1.bd hB) (by omega)
     have lR:=hS.len;simp only[List.length_append] at lR;have hk2:Kq Ds0 (P++R++[]):=hk1.trans (by have:=(hS.kp).mid (P:=P) (Q:=[]);simpa using this)
     have hs2:Bl (2 * w) a (P++R++[]):=fun q hq=>by
      have:=hs1 q hq;rw[show P++A++B++[]=P++(A++B)++[] by simp,AXG (by omega)] at this
      rw[AXG (by omega)];exact this
     have hu:Ab (2 * w) 0 (P++R++[]):=hs2.up ha (by simp;omega) (by rw[List.append_nil,←lP,List.drop_left];exact hS.asc)
     obtain⟨Ds',x1,x2,x3,hL2,f⟩:=grow hn Ds0 hB hl z (P++R++[]) (w:=w * 2) (m2:=a) (m3:=b) (by omega) (by omega) hk2 (by rw[Nat.mul_comm];exact hu)
     exact⟨Ds',x1,x2,x3,r136_l1_next1 (by omega) (by omega) hL (by omega) (by omega) (by omega) hE (by omega) hL2,f⟩
    ·have hu:Ab (2 * w) 0 Ds1:=hs1.up ha (by omega) (by rw[seg_all (by omega)] at sA;exact sA)
     obtain⟨Ds',x1,x2,x3,hL2,f⟩:=grow hn Ds0 hB hl z Ds1 (w:=w * 2) (m2:=a) (m3:=b) (by omega) (by omega) hk1 (by rw[Nat.mul_comm];exact hu)
     exact⟨Ds',x1,x2,x3,r136_l1_next2 (by omega) (by omega) hL (by omega) (by omega) (by omega) (by omega) hL2,f⟩
  ·refine⟨Ds,w,m2,m3,r136_l1_out1 (by omega),?_,hk.perm,hk.keep⟩
   have:=hab 0 (by omega)
   rw[Nat.zero_mul,seg_all (by omega)] at this;exact this
theorem e99{Ds:List Dg}(hn:Ds.length<1000000000)(hB:Bd Ds):∃R,E 130 [.arr H.length g 0 Ds.length 5,fnc] (aS H T g Ds) (.tuple []) (aS H T g R)∧Sd Ds R:=by
 obtain⟨Ds1,i,a,b,hL,ha,han,hna,hk,hs⟩:=AJ4 (H:=H) (T:=T) (g:=g) hn Ds hB rfl Ds.length 0 Ds (a:=0) (b:=20) (by omega) (by omega) (by omega) (by omega) (Kq.refl _) (fun q hq=>by omega)
 have hlen:=hk.len;have e:Ds1=Ds1.take a++Ds1.drop a++[]:=by simp
 have lP:(Ds1.take a).length=a:=by rw[List.length_take];omega
 have lL:(Ds1.drop a).length=Ds.length - a:=by rw[List.length_drop];omega
 generalize Ds1.take a=P at *;generalize Ds1.drop a=L at *;subst e;obtain⟨R,hE,hS⟩:=e149 (H:=H) (T:=T) (g:=g) (n:=Ds.length) hn (P:=P) (L:=L) (Q:=[]) (a:=a) (b:=Ds.length) (by omega) (by omega) ((hk.bd hB).mono fun d hd=>by simp[hd]) (by omega)
 have lR:=hS.len
 have hs2:Bl 20 a (P++R++[]):=fun q hq=>by
  have:=hs q hq;rw[AXG (by omega)] at this ⊢;exact this
 have hu:Ab 20 0 (P++R++[]):=hs2.up ha (by simp;omega) (by rw[List.append_nil,←lP,List.drop_left];exact hS.asc)
 obtain⟨Ds',x1,x2,x3,hL2,f⟩:=grow (H:=H) (T:=T) (g:=g) hn Ds hB rfl Ds.length (P++R++[]) (w:=20) (m2:=a) (m3:=b) (by omega) (by omega) (hk.trans hS.kp.mid) hu
 exact⟨Ds',r99 (r136 hL hE hL2),f⟩
end
end Go.Abs.Z

namespace Go.Abs.Z
open Go.Proofs Go.RowKit
def numB(w:List UInt8):Bool:=decide (w≠[])&&(decide (w.length≤9)&&decide (w.length≤runL diB w))
def lexC(s:List UInt8)(t:Tk):Nat:=if t.k=4 then 1 else if t.k=2 then(if numB (wd s t) then 0 else 2) else if t.k=0∧16<(wd s t).length then 3 else 0
def lexP(s:List UInt8):List Tk→List Dg
 |[]=>[]
 |t::l=>if lexC s t=0 then lexP s l else⟨lexC s t,t.a,t.e,[]⟩::lexP s l
theorem lexP_app(s:List UInt8):∀l l':List Tk,lexP s (l++l')=lexP s l++lexP s l'
 |[],_=>rfl
 |t::l,l'=>by
  rw[List.cons_append,lexP,lexP];split
  ·exact lexP_app s l l'
  ·rw[lexP_app s l l'];rfl
theorem AXL(s:List UInt8):∀l:List Tk,(lexP s l).length≤l.length
 |[]=>Nat.le_refl _
 |t::l=>by
  have:=AXL s l;rw[lexP];split<;>simp<;>omega
theorem n98(w:List UInt8)(hw:w.length≤9):∀(n j:Nat) (z:Int),j+n=w.length→∃z',LL a129 0 [(4,some (I z)),(22,some (.slice false 1 (w.map by8))),(23,some (N w.length)),(24,some (N j))] [] (.exit 0) [(4,some (I z')),(22,some (.slice false 1 (w.map by8)))] []
 |0,j,z,h=>⟨z,r98_l0_out1 (by omega)⟩
 |n+1,j,z,h=>by
  obtain⟨z',h'⟩:=n98 w hw n (j+1) _ (by omega)
  exact⟨z',r98_l0_next1 (by omega) (List.getElem?_eq_getElem (by omega)) rfl rfl rfl rfl (by omega) h'⟩
theorem e98(w:List UInt8)(hl:w.length<1000000):∃z,E 129 [.str w] [] (.tuple [I z,.bool (numB w)]) []:=by
 by_cases h1:w=[]
 ·exact⟨0,by subst h1;exact r98_1 rfl⟩
 ·by_cases h2:9<w.length
  ·have:numB w=false:=by simp[numB];omega
   rw[this];exact⟨0,r98_2 h1 (by omega)⟩
  ·have a1:=e134 diB rfl e135 w hl 0 (by omega)
   rw[List.drop_zero,Nat.zero_add] at a1;by_cases h3:runL diB w<w.length
   ·have:numB w=false:=by simp[numB];omega
    rw[this];exact⟨0,r98_3 h1 (by omega) a1 (by omega)⟩
   ·have:numB w=true:=by simp[numB];exact⟨h1,by omega,by omega⟩
    rw[this];obtain⟨z,hz⟩:=n98 w (by omega) w.length 0 0 (by omega)
    exact⟨z,r98_4 h1 (by omega) a1 (by omega) hz⟩
def lxH(D:List Dg):PV:=match D with | []=>.nils | _::D=>.arr 1 D.length 0 (D.length+1) 5
def lxS(D:List Dg):Sto:=match D with | []=>[] | d::D=>[[.arrv D.length 5 ((d::D).map Dg.pv)]]
theorem AzZ(D:List Dg):Hv (lxH D):=by cases D<;>first | exact .nil | exact .arr ..
theorem lxApp{X:List PV}(D:List Dg)(d:Dg)(h:D.length<100000):OpEv pur run (.w (.appA 5)) [lxH D,.slice true 5 [d.pv]] (X::lxS D) [some (lxH (D++[d]))] (X::lxS (D++[d])):=by
 cases D with
 |nil=>exact appA_nil (T:=[]) rfl
 |cons e D=>
  have h0:=appA_arr (X:=X) (B:=[]) (g:=D.length) (n:=D.length+1) (Ds:=(e::D).map Dg.pv) (o:=true) (d:=d.pv) rfl (by simp) (by simp[AqC] at h ⊢;omega)
  have e1:lxH (e::D++[d])=.arr 1 (D.length+1) 0 (D.length+1+1) 5:=by
   show PV.arr 1 (D++[d]).length 0 ((D++[d]).length+1) 5=_;simp
  have e2:lxS (e::D++[d])=[[.arrv (D.length+1) 5 ((e::D).map Dg.pv++[d.pv])]]:=by
   show[[PV.arrv (D++[d]).length 5 ((e::(D++[d])).map Dg.pv)]]=_;simp
  rw[e1,e2];exact h0
theorem st46(s:List UInt8)(hs:s.length≤4096)(all:List Tk)(ha:all.length≤5000):∀(rest done:List Tk),all=done++rest→(∀t∈rest,t.a≤t.e∧t.e≤s.length) → 
  LL a56 0 [(0,some (.str s)),(7,some (.ref 0 0)),(8,some (lxH (lexP s done))),(26,some (.slice false 4 (all.map Tk.pv))),(27,some (N all.length)),(28,some (N done.length))] (q0 s (accP 4 ((good done).map Tk.pv))::lxS (lexP s done)) (.exit 0)
   [(0,some (.str s)),(7,some (.ref 0 0)),(8,some (lxH (lexP s all))),(26,some (.slice false 4 (all.map Tk.pv)))] (q0 s (accP 4 ((good all).map Tk.pv))::lxS (lexP s all))
 |[],done,e,_=>by
  rw[List.append_nil] at e;subst e;exact r46_l0_out1 (AzZ _) (by omega)
 |t::rest,done,e,hr=>by
  have hlen:all.length=done.length+(rest.length+1):=by rw[e];simp
  have ih:=st46 s hs all ha rest (done++[t]) (by rw[e];simp) (fun u hu=>hr u (by simp[hu]))
  have g1:all[done.length]?=some t:=by rw[e];simp
  obtain⟨h1,h2⟩:=hr t (by simp)
  have x1:semP (.ssl true true) [.str s,N t.a,N t.e]=some [some (.str (wd s t))]:=p_ssl s t.a t.e h1 h2;have hw:(wd s t).length≤s.length:=by simp only[wd,List.length_take,List.length_drop];omega
  rw[List.length_append,List.length_singleton] at ih;have hl:(lexP s done).length≤done.length:=AXL s done
  have eL:lexP s (done++[t])=if lexC s t=0 then lexP s done else lexP s done++[⟨lexC s t,t.a,t.e,[]⟩]:=by
   rw[lexP_app];simp only[lexP];split<;>simp
  have eG:good (done++[t])=if t.k=4 then good done else good done++[t]:=by
   unfold good;rw[List.filter_append];by_cases h:t.k=4
   ·simp[h]
   ·simp[h]
  have gl:(good done).length≤done.length:=List.length_filter_le _ _;have hm:((good done).map Tk.pv).length+1≤AqC:=by rw[List.length_map];unfold AqC;omega
  rw[eL,eG] at ih;by_cases c4:t.k=4
  ·have hc:lexC s t=1:=by simp[lexC,c4]
   rw[hc,if_neg (by decide),if_pos c4] at ih
   exact r46_l0_next1 (AzZ _) (by omega) g1 x1 (by omega) (AzZ _) (lxApp _ ⟨1,t.a,t.e,[]⟩ (by omega)) (by omega) ih
  ·rw[if_neg c4,List.map_append,List.map_singleton] at ih;by_cases c2:t.k=2
   ·obtain⟨z,hz⟩:=e98 (wd s t) (by omega)
    cases hn:numB (wd s t) with
    |true=>
     have hc:lexC s t=0:=by simp[lexC,c2,hn]
     rw[hc,if_pos rfl] at ih;rw[hn] at hz;exact r46_l0_next2 (AzZ _) (by omega) g1 x1 (by omega) (by omega) hz hm (by omega) ih
    |false=>
     have hc:lexC s t=2:=by simp[lexC,c2,hn]
     rw[hc,if_neg (by decide)] at ih
     rw[hn] at hz;exact r46_l0_next3 (AzZ _) (by omega) g1 x1 (by omega) (by omega) hz (AzZ _) (lxApp _ ⟨2,t.a,t.e,[]⟩ (by omega)) hm (by omega) ih
   ·by_cases c0:t.k=0
    ·by_cases cl:16<(wd s t).length
     ·have hc:lexC s t=3:=by simp[lexC,c0,cl]
      rw[hc,if_neg (by decide)] at ih
      exact r46_l0_next5 (AzZ _) (by omega) g1 x1 (by omega) (by omega) (by omega) (by omega) (AzZ _) (lxApp _ ⟨3,t.a,t.e,[]⟩ (by omega)) hm (by omega) ih
     ·have hc:lexC s t=0:=by simp[lexC,c0,cl]
      rw[hc,if_pos rfl] at ih;exact r46_l0_next6 (AzZ _) (by omega) g1 x1 (by omega) (by omega) (by omega) (by omega) hm (by omega) ih
    ·have hc:lexC s t=0:=by simp[lexC,c0,c2,c4]
     rw[hc,if_pos rfl] at ih;exact r46_l0_next4 (AzZ _) (by omega) g1 x1 (by omega) (by omega) (by omega) hm (by omega) ih
def lexs(s:List UInt8):List Dg:=lexP s (scanT s)
theorem e46(s:List UInt8)(hs:s.length≤4096):E 56 [.str s] [] (.tuple [.ref 0 0,lxH (lexs s),I 0]) (PS4 s (toksT s) (lxS (lexs s)) 0 []):=by
 have hl:(scanT s).length≤s.length+1:=AjS (s.length+1) s 0;have hw:=(Aw6 s (s.length+1) 0 (by omega) (by omega)).wf
 have h:=st46 s hs (scanT s) (by omega) (scanT s) [] rfl (fun t ht=>⟨(hw t ht).1.ord.1,(hw t ht).1.ord.2.1⟩)
 have hT:=(AQ8 s (by omega)).len
 have e:q0 s (accP 4 ((toksT s).map Tk.pv))=pc s (toksT s) 0 0 .nils (-1):=by
  cases hg:toksT s with
  |nil=>rw[hg] at hT;cases hT
  |cons t ts=>rfl
 have h2:=r46_2 (e97 s hs) rfl (AzZ _) h
 have e3:PS4 s (toksT s) (lxS (lexs s)) 0 []=pc s (toksT s) 0 0 .nils (-1)::lxS (lexs s):=by
  show pc s (toksT s) 0 0 .nils (-1)::(lxS (lexs s)++[])=_;rw[List.append_nil]
 rw[e3,←e];exact h2
end Go.Abs.Z

namespace Go.Abs.Z
open Go.Proofs Go.RowKit
def dgA(ls:List Tk)(d:AD):Dg:=⟨d.c,tA ls d.i,tE ls d.i,d.t⟩
def dgs(ls:List Tk)(D:List AD):List Dg:=D.map (dgA ls)
theorem dgs_pv(ls:List Tk)(D:List AD):(dgs ls D).map Dg.pv=D.map (dgp ls):=by simp[dgs,dgp,dgA,Function.comp_def]
theorem pv_facts(Ds:List Dg):(Ds.map Dg.pv).map PV.Aq0=Ds.map Dg.pv∧(Ds.map Dg.pv).all PV.ones=true∧(Ds.map Dg.pv).all PV.okc=true∧(Ds.map Dg.pv).all (fun e=>e.flat&&e.cells.all PV.flat)=true:=by
 induction Ds with
 |nil=>exact⟨rfl,rfl,rfl,rfl⟩
 |cons d Ds ih=>
  obtain⟨a,b,c,e⟩:=ih;refine⟨?_,?_,?_,?_⟩
  ·rw[List.map_cons,List.map_cons,a];rfl
  ·rw[List.map_cons,List.all_cons,b];rfl
  ·rw[List.map_cons,List.all_cons,c];rfl
  ·rw[List.map_cons,List.all_cons,e];rfl
theorem AZ5{H T:Sto}{g:Nat}{Ds:List Dg}:rowA (aS H T g Ds) H.length g 0 Ds.length 5=some (Ds.map Dg.pv):=by
 have:(Ds.map Dg.pv).take Ds.length=Ds.map Dg.pv:=List.take_of_length_le (by simp)
 unfold rowA;simp[aS_get,arrOf,this]
theorem appA_row{σ:Sto}{id g n:Nat}{es xs:List PV}(h:rowA σ id g 0 n 5=some es):appA 5 (.arr id g 0 n 5) xs σ=(if xs.isEmpty then some ([some (.arr id g 0 n 5)],σ)
  else if n+xs.length≤AqC∧xs.all PV.ones∧xs.all PV.okc then some ([some (.arr id (g+1) 0 (n+xs.length) 5)],σ.set id [.arrv (g+1) 5 (es++xs.map PV.Aq0)]) else none):=by
 simp only[appA,if_true,h]
theorem appM_nil(σ:Sto):OpEv pur run (.w (.appA 5)) [.nils,.nils] σ [some .nils] σ:=⟨0,fun _ _=>rfl⟩
theorem appM_new{σ:Sto}{H T:Sto}{g:Nat}{Ds:List Dg}(he:σ=aS H T g Ds)(hne:Ds≠[])(hl:Ds.length<1000000):OpEv pur run (.w (.appA 5)) [.nils,.arr H.length g 0 Ds.length 5] σ [some (.arr σ.length 0 0 Ds.length 5)] (aS σ [] 0 Ds):=by
 obtain⟨a,b,c,_⟩:=pv_facts Ds
 have hr:appXA 5 σ (.arr H.length g 0 Ds.length 5)=some (Ds.map Dg.pv):=by
  show(if 5=5 then rowA σ H.length g 0 Ds.length 5 else none)=_
  rw[if_pos rfl,he,AZ5]
 refine⟨0,fun n _=>?_⟩
 show(match appXA 5 σ (.arr H.length g 0 Ds.length 5) with | some xs=>appA 5 .nils xs σ | none=>none)=_
 rw[hr];show(if _ then _ else _)=_
 rw[if_neg (by cases Ds<;>simp at hne ⊢),if_pos ⟨by rw[List.length_map];unfold AqC;omega,b,c⟩,a,List.length_map]
 rfl
theorem appM_old{H T:Sto}{g:Nat}{Ds:List Dg}:OpEv pur run (.w (.appA 5)) [.arr H.length g 0 Ds.length 5,.nils] (aS H T g Ds) [some (.arr H.length g 0 Ds.length 5)] (aS H T g Ds):=by
 refine⟨0,fun n _=>?_⟩
 show appA 5 (.arr H.length g 0 Ds.length 5) [] (aS H T g Ds)=_;rw[appA_row AZ5];rfl
theorem appM_both{σ:Sto}{H T H' T':Sto}{g g':Nat}{Ds Es:List Dg}(he:σ=aS H T g Ds)(he':σ=aS H' T' g' Es)(hne:Es≠[])(hl:Ds.length+Es.length<1000000):
  OpEv pur run (.w (.appA 5)) [.arr H.length g 0 Ds.length 5,.arr H'.length g' 0 Es.length 5] σ [some (.arr H.length (g+1) 0 (Ds++Es).length 5)] (aS H T (g+1) (Ds++Es)):=by
 obtain⟨a,b,c,_⟩:=pv_facts Es
 have hr:appXA 5 σ (.arr H'.length g' 0 Es.length 5)=some (Es.map Dg.pv):=by
  show(if 5=5 then rowA σ H'.length g' 0 Es.length 5 else none)=_
  rw[if_pos rfl,he',AZ5]
 refine⟨0,fun n _=>?_⟩
 show(match appXA 5 σ (.arr H'.length g' 0 Es.length 5) with | some xs=>appA 5 (.arr H.length g 0 Ds.length 5) xs σ | none=>none)=_
 rw[hr,he];show appA 5 (.arr H.length g 0 Ds.length 5) (Es.map Dg.pv) (aS H T g Ds)=_;rw[appA_row AZ5,if_neg (by cases Es<;>simp at hne ⊢),if_pos ⟨by rw[List.length_map];unfold AqC;omega,b,c⟩,a,aS_set,List.length_map,List.length_append]
 unfold aS;rw[List.map_append]
theorem frz_aS{H T:Sto}{g:Nat}{Ds:List Dg}:OpEv pur run (.w .frz) [.arr H.length g 0 Ds.length 5] (aS H T g Ds) [some (.slice false 5 (Ds.map Dg.pv))] ((aS H T g Ds).set H.length [.dead]):=by
 obtain⟨_,_,_,d⟩:=pv_facts Ds;refine⟨0,fun n _=>?_⟩
 show(match rowA (aS H T g Ds) H.length g 0 Ds.length 5 with
  |some es=>if es.all (fun e=>e.flat&&e.cells.all PV.flat) then some ([some (PV.slice false 5 es)],(aS H T g Ds).set H.length [.dead]) else none
  |none=>none)=_
 rw[AZ5];show(if _ then _ else _)=_
 rw[if_pos d]
theorem frz_nil(σ:Sto):OpEv pur run (.w .frz) [.nils] σ [some .nils] σ:=⟨0,fun _ _=>rfl⟩
theorem e99z(σ:Sto):E 130 [.nils,.func 131 [] []] σ (.tuple []) σ:=
 r99z (r136z (n:=0) (r136z_l0_out1 (m1:=0) (m2:=20) (by omega)) (r149z (a:=0) (b:=0) (by omega) (r149z_l0_out1 (by omega))) (r136z_l1_out1 (m1:=20) (by omega)))
theorem lx_aS(X:List PV)(d:Dg)(LX:List Dg)(T:Sto):X::(lxS (d::LX)++T)=aS [X] T LX.length (d::LX):=rfl
theorem ar_aS(X:List PV)(ls:List Tk)(B:Sto)(d:AD)(D:List AD):X::(B++arS ls (d::D))=aS (X::B) [] D.length (dgs ls (d::D)):=by
 unfold aS;rw[dgs_pv];rfl
theorem appM{X:List PV}{ls:List Tk}{LX:List Dg}{Bx:Sto}{D:List AD}(h1:LX.length<100000)(h2:D.length<100000):
  ∃h σ1,OpEv pur run (.w (.appA 5)) [lxH LX,wrP ((lxS LX++Bx).length+1) D] (X::((lxS LX++Bx)++arS ls D)) [some h] σ1∧
   ((h=.nils∧LX++dgs ls D=[])∨∃H T g,h=.arr H.length g 0 (LX++dgs ls D).length 5∧σ1=aS H T g (LX++dgs ls D)):=by
 have hlen:(dgs ls D).length=D.length:=by simp[dgs]
 cases LX with
 |nil=>cases D with
  |nil=>exact⟨_,_,appM_nil _,.inl ⟨rfl,rfl⟩⟩
  |cons d D=>
   have h:=appM_new (σ:=X::(Bx++arS ls (d::D))) (ar_aS X ls Bx d D) (by simp[dgs]) (by omega)
   have e:wrP ((lxS []++Bx).length+1) (d::D)=.arr (X::Bx).length D.length 0 (dgs ls (d::D)).length 5:=by rw[hlen];rfl
   rw[e];exact⟨_,_,h,.inr ⟨_,_,_,rfl,rfl⟩⟩
 |cons e LX=>
  cases D with
  |nil=>
   have h:=appM_old (H:=[X]) (T:=Bx) (g:=LX.length) (Ds:=e::LX);refine⟨_,_,?_,.inr ⟨[X],Bx,LX.length,by rw[show dgs ls []=[] from rfl,List.append_nil],by rw[show dgs ls []=[] from rfl,List.append_nil]⟩⟩
   rw[show arS ls []=[] from rfl,List.append_nil]
   exact h
  |cons d D=>
   have h:=appM_both (σ:=X::((lxS (e::LX)++Bx)++arS ls (d::D))) (H:=[X]) (T:=Bx++arS ls (d::D)) (g:=LX.length) (Ds:=e::LX) (by rw[List.append_assoc,lx_aS]) (ar_aS X ls (lxS (e::LX)++Bx) d D) (by simp[dgs]) (by omega)
   have e':wrP ((lxS (e::LX)++Bx).length+1) (d::D)=.arr (X::(lxS (e::LX)++Bx)).length D.length 0 (dgs ls (d::D)).length 5:=by rw[hlen];rfl
   rw[e'];exact⟨_,_,h,.inr ⟨_,_,_,rfl,rfl⟩⟩
theorem AXS(q:Nat)(D:List AD):Hv (wrP q D):=by cases D<;>first | exact .nil | exact .arr ..
theorem e48{s:List UInt8}{ls:List Tk}{k l:Nat}{bf:Int}{LX:List Dg}{Bx:Sto}{D:List AD}(h1:LX.length<100000)(h2:D.length<100000)(hb:Bd (LX++dgs ls D)):
  ∃R σ,Sd (LX++dgs ls D) R∧E 58 [.ref 0 0,lxH LX] (pc s ls k l (wrP ((lxS LX++Bx).length+1) D) bf::((lxS LX++Bx)++arS ls D)) (accD 5 (R.map Dg.pv)) σ:=by
 obtain⟨h,σ1,hA,hh⟩:=appM (X:=pc s ls k l (wrP ((lxS LX++Bx).length+1) D) bf) (ls:=ls) (Bx:=Bx) h1 h2;rcases hh with⟨rfl,he⟩ | ⟨H,T,g,rfl,rfl⟩
 ·exact⟨[],σ1,by rw[he];exact Sd.refl List.Pairwise.nil,r48 (AzZ _) (AXS _ _) .nil hA (e99z _) (frz_nil _)⟩
 ·have hlen:(dgs ls D).length=D.length:=by simp[dgs]
  obtain⟨R,hE,hS⟩:=e99 (H:=H) (T:=T) (g:=g) (Ds:=LX++dgs ls D) (by rw[List.length_append];omega) hb
  have hf:=frz_aS (H:=H) (T:=T) (g:=g) (Ds:=R);rw[hS.len] at hf;have e:accD 5 (R.map Dg.pv)=if R=[] then .nils else .slice false 5 (R.map Dg.pv):=by cases R<;>rfl
  by_cases hR:R=[]
  ·
   subst hR;have h0:=hS.len;simp only[List.length_nil] at h0;have h0':LX++dgs ls D=[]:=List.length_eq_zero_iff.1 h0.symm;obtain⟨rfl,h3⟩:=List.append_eq_nil_iff.1 h0';have:D=[]:=List.length_eq_zero_iff.1 (by rw[←hlen,h3];rfl)
   subst this;exact⟨[],_,Sd.refl List.Pairwise.nil,r48 (AzZ []) (AXS _ []) .nil (appM_nil _) (e99z _) (frz_nil _)⟩
  ·refine⟨R,(aS H T g R).set H.length [.dead],hS,r48 (AzZ _) (AXS _ _) (.arr ..) hA hE ?_⟩
   rw[e,if_neg hR];exact hf
def finD(w:Nat→Wd)(k:Nat)(D:List AD):List AD:=if(w k).1=5 then D else D++[⟨4,k,wEnd⟩]
theorem apW{X:List PV}{ls:List Tk}{B:Sto}(D:List AD)(d:AD)(h:D.length<100000):OpEv pur run (.w (.appA 5)) [wrP (B.length+1) D,.slice true 5 [dgp ls d]] (X::(B++arS ls D)) [some (wrP (B.length+1) (D++[d]))] (X::(B++arS ls (D++[d]))):=by
 obtain⟨e1,e2⟩:=rp_snoc (ls:=ls) D d;rw[e1,e2];cases D with
 |nil=>
  have:=appA_nil (X:=X) (T:=B) (o:=true) (d:=dgp ls d) rfl;simpa [arS,wrP] using this
 |cons e D=>exact appA_arr (X:=X) (B:=B) (g:=D.length) (n:=D.length+1) (Ds:=(e::D).map (dgp ls)) (o:=true) (d:=dgp ls d) rfl (by simp) (by simp[AqC] at h ⊢;omega)
theorem ldWr{s:List UInt8}{ls:List Tk}{B:Sto}{k:Nat}{D:List AD}:semR (.ld 1 false) [.ref 0 4] (PS4 s ls B k D)=some [some (wrP (B.length+1) D)]:=ldW (AXS _ _)
theorem Bd_dgs{s:List UInt8}{ls:List Tk}{m:Nat}(H:Toks s ls m){D:List AD}(hD:∀d∈D,d.i≤m):Bd (dgs ls D):=by
 intro x hx;obtain⟨d,hd,rfl⟩:=List.mem_map.1 hx;obtain⟨t,ht⟩:=H.at (hD d hd);have h1:=H.ord _ _ ht;have h2:=H.small;show tA ls d.i<_;rw[tA_eq ht];omega
theorem Bd_lex{s:List UInt8}(hs:s.length≤4096):Bd (lexs s):=by
 have hw:=(Aw6 s (s.length+1) 0 (by omega) (by omega)).wf
 have:∀l:List Tk,(∀t∈l,t.a≤4096)→Bd (lexP s l):=by
  intro l
  induction l with
  |nil=>intro _ x hx;cases hx
  |cons t l ih=>
   intro h x hx;rw[lexP] at hx
   split at hx
   ·exact ih (fun u hu=>h u (by simp[hu])) x hx
   ·rcases List.mem_cons.1 hx with rfl | hx
    ·have:=h t (by simp);show t.a<_;omega
    ·exact ih (fun u hu=>h u (by simp[hu])) x hx
 exact this _ fun t ht=>by have:=(hw t ht).1.ord;omega
theorem Dok.small{k:Nat}{D:List AD}(h:Dok k D):D.length≤k+1:=by
 have:∀(D:List AD) (k j:Nat),D.Pairwise (fun a b=>a.i<b.i)→(∀d∈D,j≤d.i∧d.i≤k)→D.length+j≤k+1∨D=[]:=by
  intro D
  induction D with
  |nil=>intro _ _ _ _;exact .inr rfl
  |cons d D ih=>
   intro k j hp hd;have hp':=List.pairwise_cons.1 hp;have h0:=hd d (by simp)
   refine .inl ?_
   rcases ih k (d.i+1) hp'.2 (fun e he=>⟨hp'.1 e he,(hd e (by simp[he])).2⟩) with h | h
   ·simp;omega
   ·subst h;simp;omega
 rcases this D k 0 h.1 (fun d hd=>⟨Nat.zero_le _,h.2 d hd⟩) with h | h
 ·omega
 ·subst h;simp
theorem e22{s:List UInt8}(hs:s.length≤4096){g:FuncId}(pg:pur g=false){U:Tr}{Bx:Sto}{k:Nat}{D:List AD}
  (hg:E g [.ref 0 0] (PS4 s (toksT s) (lxS (lexs s)) 0 []) U.pv (PS4 s (toksT s) (lxS (lexs s)++Bx) k D)) (hk:k≤(toksT s).length - 1) (hD:Dok k D) :
  ∃R σ,Sd (lexs s++dgs (toksT s) (finD (wAt s (toksT s)) k D)) R∧E 16 [.str s,.func g [] []] [] (.tuple [U.pv,accD 5 (R.map Dg.pv),I 0]) σ:=by
 have H:=AQ8 s (by omega)
 have hsc:(scanT s).length≤s.length+1:=AjS (s.length+1) s 0;have hm:(toksT s).length≤s.length+1:=Nat.le_trans (List.length_filter_le _ _) hsc;have hlx:(lexs s).length<100000:=Nat.lt_of_le_of_lt (AXL s _) (by omega)
 obtain⟨t,ht⟩:=H.at hk;have h47:=p47' (B:=lxS (lexs s)++Bx) (D:=D) H hk ht;have hw:=AXU (s:=s) ht;have hDl:=hD.small
 have hb:∀D':List AD,(∀d∈D',d.i≤k)→Bd (lexs s++dgs (toksT s) D'):=fun D' h x hx=>by
  rcases List.mem_append.1 hx with hx | hx
  ·exact Bd_lex hs x hx
  ·exact Bd_dgs H (fun d hd=>Nat.le_trans (h d hd) hk) x hx
 by_cases h5:t.k=5
 ·have e:finD (wAt s (toksT s)) k D=D:=by unfold finD;rw[hw,if_pos h5]
  rw[e];obtain⟨R,σ,hS,hE⟩:=e48 (s:=s) (ls:=toksT s) (k:=k) (l:=en (toksT s) k) (bf:=bfP (toksT s) D) (Bx:=Bx) (D:=D) hlx (by omega) (hb D hD.2)
  exact⟨R,σ,hS,r22_3 (AzZ _) (e46 s hs) rfl pg hg h47 (by omega) hE⟩
 ·have e:finD (wAt s (toksT s)) k D=D++[⟨4,k,wEnd⟩]:=by unfold finD;rw[hw,if_neg h5]
  rw[e]
  obtain⟨R,σ,hS,hE⟩:=e48 (s:=s) (ls:=toksT s) (k:=k) (l:=en (toksT s) k) (bf:=bfP (toksT s) D) (Bx:=Bx) (D:=D++[⟨4,k,wEnd⟩]) hlx (by simp;omega) (hb _ fun d hd=>by
   rcases List.mem_append.1 hd with hd | hd
   ·exact hD.2 d hd
   ·rw[List.mem_singleton] at hd;subst hd;exact Nat.le_refl _)
  have hp:=apW (X:=pc s (toksT s) k (en (toksT s) k) (wrP ((lxS (lexs s)++Bx).length+1) D) (bfP (toksT s) D)) (ls:=toksT s) (B:=lxS (lexs s)++Bx) D ⟨4,k,wEnd⟩ (by omega)
  have ed:dgp (toksT s) ⟨4,k,wEnd⟩=.agg [I 4,N t.a,N t.e,.str wEnd,.nils]:=by
   show(Dg.mk 4 (tA _ k) (tE _ k) wEnd).pv=_;rw[tA_eq ht,tE_eq ht];rfl
  rw[ed] at hp;have hst:=stW (s:=s) (ls:=toksT s) (k:=k) (l:=en (toksT s) k) (wr:=wrP ((lxS (lexs s)++Bx).length+1) D) (b:=bfP (toksT s) D) (T:=(lxS (lexs s)++Bx)++arS (toksT s) (D++[⟨4,k,wEnd⟩])) (wr_self _ _) (v:=wrP ((lxS (lexs s)++Bx).length+1) (D++[⟨4,k,wEnd⟩])) (by rcases AXS ((lxS (lexs s)++Bx).length+1) (D++[⟨4,k,wEnd⟩]) with h | ⟨_,_,_,_,_,h⟩<;>rw[h]<;>exact⟨rfl,rfl,rfl,rfl⟩)
  exact⟨R,σ,hS,r22_2 (AzZ _) (e46 s hs) rfl pg hg h47 (by omega) (AXS _ _) ldWr (AXS _ _) hp hst hE⟩
def prT(s:List UInt8)(ls:List Tk)(acc:List AT):Tr:=.mk 2 [] 0 (s.length:Nat) acc.isEmpty (trPs ls acc)
theorem e8{s:List UInt8}(hs:s.length≤4096){n:Nat}(hn:n≤big4){v:Rs}{k:Nat}{D:List AD}(h:runN (wAt s (toksT s)) n (.pg []) 0 []=some (v,k,D)):
  ∃R,Sd (lexs s++dgs (toksT s) (finD (wAt s (toksT s)) k D)) R∧E 5 [.str s] [] (.tuple [(prT s (toksT s) v.2).pv,accD 5 (R.map Dg.pv),I 0]) []:=by
 have H:=AQ8 s (by omega)
 obtain⟨ok,ev⟩:=okP4 (B:=lxS (lexs s)++[[.ref 0 0]]) H n hn;have hD0:Dok 0 []:=⟨List.Pairwise.nil,fun d h=>by cases h⟩
 have hL:=ev _ _ _ _ _ _ h (Nat.zero_le _) hD0 (by simp;omega) (lxS (lexs s)) (fun k D=>by
  show semR (.ld 1 false) [.ref ((lxS (lexs s)).length+1) 0] (pc s (toksT s) k (en (toksT s) k) _ _::((lxS (lexs s)++[[.ref 0 0]])++arS (toksT s) D))=_;have:(pc s (toksT s) k (en (toksT s) k) (wrP ((lxS (lexs s)++[[PV.ref 0 0]]).length+1) D) (bfP (toksT s) D)::((lxS (lexs s)++[[PV.ref 0 0]])++arS (toksT s) D))[(lxS (lexs s)).length+1]?=some [.ref 0 0]:=by simp
  simp only[semR,this]
  rfl)
 obtain⟨o1,o2,o3⟩:=ok _ _ _ _ h (Nat.zero_le _) hD0
 have e0:PS4 s (toksT s) (lxS (lexs s)) 0 []=pc s (toksT s) 0 0 .nils (-1)::lxS (lexs s):=by
  show pc s (toksT s) 0 0 .nils (-1)::(lxS (lexs s)++[])=_;rw[List.append_nil]
 have e1:PS4 s (toksT s) (lxS (lexs s)++[[.ref 0 0]]) 0 []=pc s (toksT s) 0 0 .nils (-1)::(lxS (lexs s)++[[.ref 0 0]]):=by
  show pc s (toksT s) 0 0 .nils (-1)::((lxS (lexs s)++[[.ref 0 0]])++[])=_;rw[List.append_nil]
 rw[e1] at hL
 have h23:E 17 [.ref 0 0] (PS4 s (toksT s) (lxS (lexs s)) 0 []) (prT s (toksT s) v.2).pv (PS4 s (toksT s) (lxS (lexs s)++[[.ref 0 0]]) k D):=by
  rw[e0]
  have hx:semR (.ld 1 false) [.ref ((lxS (lexs s)).length+1) 0] (pc s (toksT s) 0 0 .nils (-1)::(lxS (lexs s)++[[.ref 0 0]]))=some [some (.ref 0 0)]:=by
   have:(pc s (toksT s) 0 0 .nils (-1)::(lxS (lexs s)++[[PV.ref 0 0]]))[(lxS (lexs s)).length+1]?=some [.ref 0 0]:=by simp
   simp only[semR,this];rfl
  have:=r23 hx hL
  have e2:(prT s (toksT s) v.2).pv=.agg [I 2,.str [],I 0,N s.length,accD 5 (Tr.pvs (trPs (toksT s) v.2))]:=by
   unfold prT;cases v.2<;>rfl
  rw[e2];exact this
 obtain⟨R,σ,hS,hE⟩:=e22 hs (g:=17) (by rfl) h23 o2 o3
 exact⟨R,hS,r8 hE⟩
end Go.Abs.Z

namespace Go.Abs.Z
mutual

def Tr.ins:Tr→Prop
 |.mk _ _ st en _ ks=>inss st en ks
def inss:Int→Int→List Tr→Prop
 |_,_,[]=>True
 |a,e,x::xs=>a≤x.st∧x.st≤x.en∧x.en≤e∧x.ins∧inss x.en e xs
end
section
variable{s:List UInt8}{ls:List Tk}{m:Nat}
theorem en_step(H:Toks s ls m){k:Nat}(h:k≤m):en ls k≤tA ls k∧tA ls k≤en ls (k+1):=by
 obtain⟨t,ht⟩:=H.at h;refine⟨?_,?_⟩
 ·cases k with
  |zero=>exact Nat.zero_le _
  |succ k=>
   obtain⟨u,hu⟩:=H.at (k:=k) (by omega)
   show tE ls k≤_;rw[tE_eq hu,tA_eq ht];exact(H.inc _ _ _ _ hu ht (by omega)).2
 ·show _≤tE ls k;rw[tE_eq ht,tA_eq ht];exact(H.ord _ _ ht).1
theorem en_mono(H:Toks s ls m){i:Nat}:∀n:Nat,i+n≤m+1→en ls i≤en ls (i+n)
 |0,_=>Nat.le_refl _
 |n+1,h=>by
  have h1:=en_mono H (i:=i) n (by omega)
  have h2:=en_step H (k:=i+n) (by omega)
  show en ls i≤en ls (i+n+1);omega
theorem en_le(H:Toks s ls m){i j:Nat}(h:i≤j)(hj:j≤m+1):en ls i≤en ls j:=by
 have:=en_mono H (i:=i) (j - i) (by omega)
 rwa [show i+(j - i)=j by omega] at this
theorem en_len(H:Toks s ls m):∀k,k≤m+1→en ls k≤s.length
 |0,_=>Nat.zero_le _
 |k+1,h=>by
  obtain⟨t,ht⟩:=H.at (k:=k) (by omega)
  show tE ls k≤_;rw[tE_eq ht];exact(H.ord _ _ ht).2
mutual
theorem tr_pl(H:Toks s ls m):∀x:AT,x.ok→x.lst≤m→((en ls x.fst:Nat):Int)≤(trP ls x).st∧(trP ls x).st≤(trP ls x).en∧(trP ls x).en=(en ls x.lst:Nat)∧(trP ls x).ins
 |.mk kd tx f k b ks,ho,hm=>by
  have h1:f≤k:=ho.1;have h3:oks f k ks:=ho.2.2;have hk:k≤m:=hm;have hp:=trs_pl H ks f k h3 hk;have e1:=en_le H h1 (by omega)
  have e2:=en_step H (k:=f) (by omega)
  have own:((en ls f:Nat):Int)≤(if f<k then((tA ls f:Nat):Int) else(en ls k:Nat))∧(if f<k then((tA ls f:Nat):Int) else(en ls k:Nat))≤((en ls k:Nat):Int):=by
   split
   ·have:=en_le H (i:=f+1) (j:=k) (by omega) (by omega)
    omega
   ·omega
  cases ks with
  |nil=>exact⟨own.1,own.2,rfl,trivial⟩
  |cons y ys=>
   obtain⟨q1,q2⟩:=hp;obtain⟨p1,p2⟩:=q1 (trP ls y) (trPs ls ys) rfl;refine⟨?_,?_,rfl,q2 _ fun u us e=>?_⟩
   ·show((en ls f:Nat):Int)≤min _ (trP ls y).st;exact Int.le_min.2 ⟨own.1,p1⟩
   ·show min _ (trP ls y).st≤_;exact Int.le_trans (Int.min_le_left _ _) own.2
   ·cases e;exact Int.min_le_right _ _
theorem trs_pl(H:Toks s ls m):∀(xs:List AT) (lo hi:Nat),oks lo hi xs→hi≤m→(∀u us,trPs ls xs=u::us→((en ls lo:Nat):Int)≤u.st∧u.st≤((en ls hi:Nat):Int))∧∀a:Int,(∀u us,trPs ls xs=u::us→a≤u.st)→inss a (en ls hi:Nat) (trPs ls xs)
 |[],_,_,_,_=>⟨fun u us h=>(by cases h),fun _ _=>trivial⟩
 |x::xs,lo,hi,h,hm=>by
  obtain⟨h1,h2,h3⟩:=h;have h4:=h3.le;have h5:=h2.le;obtain⟨p1,p2,p3,p4⟩:=tr_pl H x h2 (by omega)
  obtain⟨q1,q2⟩:=trs_pl H xs x.lst hi h3 hm;have e1:=en_le H (i:=lo) (j:=x.fst) h1 (by omega)
  have e2:=en_le H (i:=x.lst) (j:=hi) h4 (by omega)
  refine⟨fun u us e=>?_,fun a ha=>⟨ha _ _ rfl,p2,by omega,p4,q2 _ fun u us e=>?_⟩⟩
  ·cases e;omega
  ·have:=(q1 u us e).1;omega
end
theorem pr_ins(H:Toks s ls m){acc:List AT}{k:Nat}(h:oks 0 k acc)(hk:k≤m):(prT s ls acc).ins:=by
 obtain⟨q1,q2⟩:=trs_pl H acc 0 k h hk;have h0:=q2 0 fun u us e=>(q1 u us e).1
 have hl:=en_len H k (by omega)
 have up:∀(xs:List Tr) (a e e':Int),e≤e'→inss a e xs→inss a e' xs:=by
  intro xs
  induction xs with
  |nil=>exact fun _ _ _ _ _=>trivial
  |cons x xs ih=>exact fun a e e' he h=>⟨h.1,h.2.1,by have:=h.2.2.1;omega,h.2.2.2.1,ih _ _ _ he h.2.2.2.2⟩
 exact up _ _ _ _ (by omega) h0
end
end Go.Abs.Z

namespace Go.Abs.Z
open Go.Proofs Go.RowKit
set_option linter.unusedVariables false
abbrev Str:=List UInt8
inductive Chn(n:Nat):Nat→List Tk→Prop
 |fin {f:Nat} (h:f≤n):Chn n f [⟨5,f,n,n⟩]
 |cons {f:Nat} {t:Tk} {l:List Tk} (hf:t.f=f) (h1:f≤t.a) (h2:t.a<t.e) (h3:t.e≤n) (hk:t.k<5) (h:Chn n t.e l):Chn n f (t::l)
theorem scan_chn(s:List UInt8):∀(n f:Nat),f≤s.length→s.length - f<n→Chn s.length f (scanF n (s.drop f) f)
 |0,f,_,h=>by omega
 |n+1,f,hf,h=>by
  have hk:=AXW false (s.drop f);rw[List.length_drop] at hk;rw[scanF];by_cases he:(s.drop f).drop (skN false (s.drop f))=[]
  ·simp only[he,if_true];rw[List.drop_drop,List.drop_eq_nil_iff] at he;have e:f+skN false (s.drop f)=s.length:=by omega
   rw[e];exact .fin hf
  ·simp only[he,if_false];rw[List.drop_drop] at he;simp only[List.drop_drop];obtain⟨w1,w2,w3,w4⟩:=tok_wf (s:=s) (f:=f) (a:=f+skN false (s.drop f)) rfl he (by omega)
   have hlt:f+skN false (s.drop f) < s.length:=by omega
   have hm:s.length - (f+skN false (s.drop f)+(tokN (s.drop (f+skN false (s.drop f)))).2) < n:=by omega
   exact .cons rfl (by simp) (by simp only;omega) w3 w4 (scan_chn s n _ w3 hm)
theorem Chn.bd{n f:Nat}{l:List Tk}(h:Chn n f l):∀t∈l,f≤t.a∧t.a≤t.e∧t.e≤n∧(t.k≠5→t.a<t.e)∧(t.k=5→t.a=n):=by
 induction h with
 |fin h=>intro t ht;rw[List.mem_singleton] at ht;subst ht;exact⟨h,Nat.le_refl _,Nat.le_refl _,fun h=>absurd rfl h,fun _=>rfl⟩
 |@cons f t l hf h1 h2 h3 hk h ih=>
  intro u hu;rcases List.mem_cons.1 hu with rfl | hu
  ·exact⟨h1,by omega,h3,fun _=>h2,fun h=>by omega⟩
  ·obtain⟨q1,q2⟩:=ih u hu;exact⟨by omega,q2⟩
abbrev Srt(l:List Tk):Prop:=l.Pairwise fun t u=>t.e≤u.a∧t.a<u.a
theorem Chn.srt{n f:Nat}{l:List Tk}(h:Chn n f l):Srt l:=by
 induction h with
 |fin h=>exact List.pairwise_singleton _ _
 |@cons f t l hf h1 h2 h3 hk h ih=>
  refine List.pairwise_cons.2 ⟨fun u hu=>?_,ih⟩
  have:=(h.bd u hu).1;omega
def pcT(s:Str)(t:Tk):Str:=(s.drop t.f).take (t.e - t.f)
theorem Chn.text{s:Str}{n f:Nat}{l:List Tk}(h:Chn n f l)(hn:n=s.length):l.flatMap (pcT s)=s.drop f:=by
 induction h with
 |@fin f h=>
  subst hn;show(s.drop f).take (s.length - f)++[]=_;rw[List.append_nil,List.take_of_length_le (by simp)]
 |@cons f t l hf h1 h2 h3 hk h ih=>
  rw[List.flatMap_cons,ih];unfold pcT;rw[hf];have:s.drop t.e=(s.drop f).drop (t.e - f):=by rw[List.drop_drop];congr 1;omega
  rw[this,List.take_append_drop]
def Cut(T:List Tk)(p:Int):Prop:=∀t∈T,(t.e:Int)≤p∨p≤t.a
mutual
def Tr.cuts(T:List Tk):Tr→Prop
 |.mk _ _ st en _ ks=>Cut T st∧Cut T en∧cutss T ks
def cutss(T:List Tk):List Tr→Prop
 |[]=>True
 |x::xs=>x.cuts T∧cutss T xs
end
def inT(x:Tr)(t:Tk):Bool:=t.k != 5&&(decide (x.st≤(t.a:Nat))&&decide (((t.e:Nat):Int)≤x.en))
theorem AxG{x:Tr}{t:Tk}:inT x t=true↔t.k≠5∧x.st≤(t.a:Nat)∧((t.e:Nat):Int)≤x.en:=by
 simp[inT,Bool.and_eq_true,bne_iff_ne]
def bef:List (Int×Str)→Int→Str×List (Int×Str)
 |[],_=>([],[])
 |k::K,p=>if k.1<p then(k.2++(bef K p).1,(bef K p).2) else([],k::K)
def prN(s:Str):List Tk→List (Int×Str)→Str
 |[],K=>(bef K ((s.length:Nat)+1)).1
 |t::l,K=>(bef K (t.a:Nat)).1++(pcT s t++prN s l (bef K (t.a:Nat)).2)
theorem prN_nil(s:Str):∀l:List Tk,prN s l []=l.flatMap (pcT s)
 |[]=>rfl
 |t::l=>by
  show[]++(pcT s t++prN s l [])=_;rw[prN_nil s l];rfl
theorem AvF{k:Int×Str}{K:List (Int×Str)}{p:Int}(h:¬k.1<p):bef (k::K) p=([],k::K):=if_neg h
theorem bef_go{k:Int×Str}{K:List (Int×Str)}{p:Int}(h:k.1<p):bef (k::K) p=(k.2++(bef K p).1,(bef K p).2):=if_pos h
theorem prN_skip(s:Str){a:Int}:∀(l:List Tk) (K:List (Int×Str)),(∀k∈K,a≤k.1)→prN s l ((a,[])::K)=prN s l K
 |[],K,h=>by
  unfold prN;by_cases ha:a<(s.length:Nat)+1
  ·rw[bef_go ha];rfl
  ·rw[AvF ha];cases K with
   |nil=>rfl
   |cons k K=>rw[AvF (by have:=h k (List.mem_cons_self ..);omega)]
 |t::l,K,h=>by
  unfold prN;by_cases ha:a<(t.a:Nat)
  ·rw[bef_go ha];rfl
  ·rw[AvF ha]
   have e:bef K (t.a:Nat)=([],K):=by
    cases K with
    |nil=>rfl
    |cons k K=>exact AvF (by have:=h k (List.mem_cons_self ..);omega)
   rw[e];show[]++(pcT s t++prN s l ((a,[])::K))=[]++(pcT s t++prN s l K);rw[prN_skip s l K h]
theorem prN_front(s:Str){k:Int×Str}{K:List (Int×Str)}:∀(l r:List Tk),(∀t∈l,¬k.1<(t.a:Nat))→prN s (l++r) (k::K)=l.flatMap (pcT s)++prN s r (k::K)
 |[],r,h=>rfl
 |t::l,r,h=>by
  show(bef (k::K) (t.a:Nat)).1++(pcT s t++prN s (l++r) (bef (k::K) (t.a:Nat)).2)=_;rw[AvF (h t (List.mem_cons_self ..)),prN_front s l r fun u hu=>h u (List.mem_cons_of_mem _ hu),List.flatMap_cons]
  simp
theorem prN_kid(s:Str){k:Int×Str}{K:List (Int×Str)}(hk:k.1<(s.length:Nat)+1):∀(r:List Tk),(∀t∈r,k.1<(t.a:Nat))→prN s r (k::K)=k.2++prN s r K
 |[],_=>by unfold prN;rw[bef_go hk]
 |t::r,h=>by
  unfold prN;rw[bef_go (h t (List.mem_cons_self ..)),List.append_assoc]
theorem split3k{k:Tr}(hk:k.st≤k.en):∀(S:List Tk),Srt S→(∀t∈S,t.a≤t.e)→(∀t∈S,((t.e:Nat):Int)≤k.st∨inT k t=true∨k.en≤(t.a:Nat))→(∀t∈S,inT k t=true→t.a<t.e)→
  ∃S1 S2 S3,S=S1++(S2++S3)∧(∀t∈S1,((t.e:Nat):Int)≤k.st)∧(∀t∈S2,inT k t=true)∧∀t∈S3,k.en≤(t.a:Nat)
 |[],_,_,_,_=>⟨[],[],[],rfl,(fun _ h=>(by cases h)),(fun _ h=>(by cases h)),(fun _ h=>(by cases h))⟩
 |t::S,hs,h0,ht,hp=>by
  obtain⟨s1,s2⟩:=List.pairwise_cons.1 hs;have t0:=h0 t (List.mem_cons_self ..);rcases ht t (List.mem_cons_self ..) with h | h | h
  ·obtain⟨S1,S2,S3,e,q1,q2,q3⟩:=split3k hk S s2 (fun u hu=>h0 u (List.mem_cons_of_mem _ hu)) (fun u hu=>ht u (List.mem_cons_of_mem _ hu)) (fun u hu=>hp u (List.mem_cons_of_mem _ hu))
   exact⟨t::S1,S2,S3,by rw[e];rfl,fun u hu=>(List.mem_cons.1 hu).elim (fun e=>e▸h) (fun hu=>q1 u hu),q2,q3⟩
  ·obtain⟨S1,S2,S3,e,q1,q2,q3⟩:=split3k hk S s2 (fun u hu=>h0 u (List.mem_cons_of_mem _ hu)) (fun u hu=>ht u (List.mem_cons_of_mem _ hu)) (fun u hu=>hp u (List.mem_cons_of_mem _ hu))
   cases S1 with
   |nil=>exact⟨[],t::S2,S3,by rw[e];rfl,(fun _ h=>(by cases h)),fun u hu=>(List.mem_cons.1 hu).elim (fun e=>e▸h) (fun hu=>q2 u hu),q3⟩
   |cons u S1=>
    have hu:u∈S:=by rw[e];exact List.mem_cons_self ..
    have:=q1 u (List.mem_cons_self ..);have h1:=s1 u hu;have h2:=h0 u (List.mem_cons_of_mem _ hu);have h3:=AxG.1 h;have h4:=hp t (List.mem_cons_self ..) h;omega
  ·refine⟨[],[],t::S,rfl,(fun _ h=>(by cases h)),(fun _ h=>(by cases h)),fun u hu=>?_⟩
   rcases List.mem_cons.1 hu with rfl | hu
   ·exact h
   ·have:=s1 u hu;omega
theorem filter_all{α:Type}{p:α→Bool}{l:List α}(h:∀x∈l,p x=true):l.filter p=l:=List.filter_eq_self.2 h
theorem AzF{α:Type}{p:α→Bool}{l:List α}(h:∀x∈l,p x=false):l.filter p=[]:=List.filter_eq_nil_iff.2 fun x hx=>by rw[h x hx];simp
theorem AkD:∀{K:List Tr} {a e:Int},inss a e K→∀k∈K,a≤k.st∧k.st≤k.en∧k.en≤e∧k.ins
 |[],_,_,_,k,h=>by cases h
 |x::K,a,e,h,k,hk=>by
  obtain⟨h1,h2,h3,h4,h5⟩:=h;rcases List.mem_cons.1 hk with rfl | hk
  ·exact⟨h1,h2,h3,h4⟩
  ·obtain⟨q1,q2⟩:=AkD h5 k hk;exact⟨by omega,q2⟩
theorem AXI(s:Str)(tx:Tr→Str):∀(K:List Tr) (S:List Tk) (a e:Int),inss a e K→e≤(s.length:Nat)→Srt S→(∀t∈S,t.a≤t.e∧(t.k≠5→t.a<t.e))→
  (∀k∈K,∀t∈S,((t.e:Nat):Int)≤k.st∨inT k t=true∨k.en≤(t.a:Nat))→(∀k∈K,tx k=(S.filter (inT k)).flatMap (pcT s))→
  prN s (S.filter fun t=>!(K.any fun k=>inT k t)) (K.map fun k=>(k.st,tx k))=S.flatMap (pcT s)
 |[],S,a,e,_,_,_,_,_,_=>by
  show prN s (S.filter fun t=>!false) []=_
  rw[show(S.filter fun _=>!false)=S from filter_all fun _ _=>rfl,prN_nil]
 |k::K,S,a,e,hi,he,hs,h0,ht,hx=>by
  obtain⟨i1,i2,i3,i4,i5⟩:=hi;have hm:=AkD i5
  have hout:∀t∈S,∀k'∈K,inT k' t=true→k.en<(t.e:Nat)∧k.en≤(t.a:Nat):=by
   intro t hts k' hk' h;have q:=AxG.1 h;have:=hm k' hk';have:=(h0 t hts).2 q.1;omega
  rcases Int.lt_or_le k.st k.en with hlt | hge
  ·obtain⟨S1,S2,S3,eS,q1,q2,q3⟩:=split3k i2 S hs (fun t h=>(h0 t h).1) (ht k (List.mem_cons_self ..)) (fun t h h'=>(h0 t h).2 (AxG.1 h').1)
   have m1:∀t∈S1,t∈S:=fun t h=>by rw[eS];simp[h]
   have m2:∀t∈S2,t∈S:=fun t h=>by rw[eS];simp[h]
   have m3:∀t∈S3,t∈S:=fun t h=>by rw[eS];simp[h]
   have n1:∀t∈S1,inT k t=false:=fun t h=>by
    rw[Bool.eq_false_iff];intro h';have q:=AxG.1 h';have:=q1 t h;have:=(h0 t (m1 t h)).2 q.1;omega
   have n3:∀t∈S3,inT k t=false:=fun t h=>by
    rw[Bool.eq_false_iff];intro h';have q:=AxG.1 h';have:=q3 t h;have:=(h0 t (m3 t h)).2 q.1;omega
   have o1:∀t∈S1,∀k'∈K,inT k' t=false:=fun t h k' hk'=>by
    rw[Bool.eq_false_iff];intro h';have:=hout t (m1 t h) k' hk' h';have:=q1 t h;omega
   have o2:∀t∈S2,∀k'∈K,inT k' t=false:=fun t h k' hk'=>by
    rw[Bool.eq_false_iff];intro h';have:=hout t (m2 t h) k' hk' h';have q:=AxG.1 (q2 t h);omega
   have a1:∀t∈S1,K.any (fun k=>inT k t)=false:=fun t h=>List.any_eq_false.2 fun k' hk'=>by rw[o1 t h k' hk'];simp
   have f1:S1.filter (fun t=>!((k::K).any fun k=>inT k t))=S1:=filter_all fun t h=>by
    show(!(inT k t||K.any fun k=>inT k t))=true
    rw[n1 t h,a1 t h];rfl
   have f2:S2.filter (fun t=>!((k::K).any fun k=>inT k t))=[]:=AzF fun t h=>by
    show(!(inT k t||K.any fun k=>inT k t))=false
    rw[q2 t h];rfl
   have f3:S3.filter (fun t=>!((k::K).any fun k=>inT k t))=S3.filter (fun t=>!(K.any fun k=>inT k t)):=List.filter_congr fun t h=>by
    show(!(inT k t||K.any fun k=>inT k t))=_
    rw[n3 t h];rfl
   have ek:tx k=S2.flatMap (pcT s):=by
    rw[hx k (List.mem_cons_self ..),eS,List.filter_append,List.filter_append,AzF n1,filter_all q2,AzF n3];simp
   have ih:=AXI s tx K S3 k.en e i5 he (by rw[eS] at hs;exact(List.pairwise_append.1 (List.pairwise_append.1 hs).2.1).2.1) (fun t h=>h0 t (m3 t h)) (fun k' hk' t h=>ht k' (List.mem_cons_of_mem _ hk') t (m3 t h)) (fun k' hk'=>by
    rw[hx k' (List.mem_cons_of_mem _ hk'),eS,List.filter_append,List.filter_append,AzF (fun t h=>o1 t h k' hk'),AzF (fun t h=>o2 t h k' hk')]
    rfl)
   conv=>lhs;rw[eS]
   rw[List.filter_append,List.filter_append,f1,f2,f3,List.nil_append,List.map_cons,prN_front s (k:=(k.st,tx k)) S1 _ (fun t h=>by have:=q1 t h;have:=(h0 t (m1 t h)).1;show ¬k.st<_;omega),
    prN_kid s (k:=(k.st,tx k)) (by show k.st<_;omega) _ (fun t h=>by have:=q3 t (List.mem_filter.1 h).1;show k.st<_;omega),ih,eS]
   simp[ek]
  ·have nk:∀t∈S,inT k t=false:=fun t h=>by
    rw[Bool.eq_false_iff];intro h';have q:=AxG.1 h';have:=(h0 t h).2 q.1;omega
   have ek:tx k=[]:=by rw[hx k (List.mem_cons_self ..),AzF nk];rfl
   have ef:S.filter (fun t=>!((k::K).any fun k=>inT k t))=S.filter (fun t=>!(K.any fun k=>inT k t)):=List.filter_congr fun t h=>by
    show(!(inT k t||K.any fun k=>inT k t))=_
    rw[nk t h];rfl
   rw[ef,List.map_cons,ek,prN_skip s _ _ (fun x hx=>by obtain⟨k',hk',rfl⟩:=List.mem_map.1 hx;have:=(hm k' hk').1;show k.st≤k'.st;omega)]
   exact AXI s tx K S k.en e i5 he hs h0 (fun k' hk'=>ht k' (List.mem_cons_of_mem _ hk')) (fun k' hk'=>hx k' (List.mem_cons_of_mem _ hk'))
end Go.Abs.Z

namespace Go.Abs.Z
open Go.Proofs Go.RowKit
set_option linter.unusedVariables false
mutual
def Tr.nds:Tr→List Tr
 |.mk kd tx st en b ks=>.mk kd tx st en b ks::ndss ks
def ndss:List Tr→List Tr
 |[]=>[]
 |x::xs=>x.nds++ndss xs
end
mutual

def Tr.no2:Tr→Prop
 |.mk kd _ _ _ _ ks=>kd≠2∧no2s ks
def no2s:List Tr→Prop
 |[]=>True
 |x::xs=>x.no2∧no2s xs
end
def mineT(x:Tr)(t:Tk):Bool:=inT x t||(t.k==5&&x.kind==2)
def ownT(x:Tr)(t:Tk):Bool:=mineT x t&&!(x.kids.any fun k=>inT k t)
mutual
def Tr.prt(s:Str)(T:List Tk):Tr→Str
 |.mk kd tx st en b ks=>prN s (T.filter (ownT (.mk kd tx st en b ks))) (prts s T ks)
def prts(s:Str)(T:List Tk):List Tr→List (Int×Str)
 |[]=>[]
 |x::xs=>(x.st,Tr.prt s T x)::prts s T xs
end
theorem prts_map(s:Str)(T:List Tk):∀ks:List Tr,prts s T ks=ks.map fun k=>(k.st,k.prt s T)
 |[]=>rfl
 |x::xs=>by rw[prts,prts_map s T xs];rfl
theorem AZZ{T:List Tk}:∀{K:List Tr},cutss T K→∀k∈K,k.cuts T
 |[],_,k,h=>by cases h
 |x::K,h,k,hk=>by
  rcases List.mem_cons.1 hk with rfl | hk
  ·exact h.1
  ·exact AZZ h.2 k hk
theorem Tr.cuts.tri{T:List Tk}{k:Tr}(h:k.cuts T){t:Tk}(ht:t∈T)(h5:t.k≠5):((t.e:Nat):Int)≤k.st∨inT k t=true∨k.en≤(t.a:Nat):=by
 obtain⟨kd,tx,st,en,b,ks⟩:=k;obtain⟨h1,h2,_⟩:=h;rcases h1 t ht with h | h
 ·exact .inl h
 ·rcases h2 t ht with h' | h'
  ·exact .inr (.inl (AxG.2 ⟨h5,h,h'⟩))
  ·exact .inr (.inr h')
section
variable{s:Str}{T:List Tk}
mutual
theorem prt_in(hs:Srt T)(h0:∀t∈T,t.a≤t.e∧(t.k≠5→t.a<t.e)):∀x:Tr,x.ins→x.cuts T→x.no2→x.en≤(s.length:Nat)→x.prt s T=(T.filter (inT x)).flatMap (pcT s)
 |.mk kd tx st en b ks,hi,hc,h2,he=>by
  have ih:=prts_in hs h0 ks hi hc.2.2 h2.2 he;have hm:=AkD hi;rw[Tr.prt,prts_map]
  have e:T.filter (ownT (.mk kd tx st en b ks))=(T.filter (inT (.mk kd tx st en b ks))).filter fun t=>!(ks.any fun k=>inT k t):=by
   rw[List.filter_filter];refine List.filter_congr fun t _=>?_
   have hk:(kd==2)=false:=beq_false_of_ne h2.1;show((inT (.mk kd tx st en b ks) t||(t.k==5&&kd==2))&&!(ks.any fun k=>inT k t))=_
   rw[hk,Bool.and_false,Bool.or_false,Bool.and_comm]
  rw[e];refine AXI s (fun k=>k.prt s T) ks _ st en hi he (hs.filter _) (fun t h=>h0 t (List.mem_filter.1 h).1) (fun k hk t h=>?_) (fun k hk=>?_)
  ·exact(AZZ hc.2.2 k hk).tri (List.mem_filter.1 h).1 (AxG.1 (List.mem_filter.1 h).2).1
  ·show k.prt s T=_;rw[ih k hk,List.filter_filter];congr 1;refine List.filter_congr fun t _=>?_
   cases h:inT k t with
   |false=>rfl
   |true=>
    have q:=AxG.1 h;have:=hm k hk;rw[(AxG (x:=.mk kd tx st en b ks)).2 ⟨q.1,by show st≤_;omega,by show _≤en;omega⟩];rfl
theorem prts_in(hs:Srt T)(h0:∀t∈T,t.a≤t.e∧(t.k≠5→t.a<t.e)):∀(ks:List Tr) {a e:Int},inss a e ks→cutss T ks→no2s ks→e≤(s.length:Nat)→∀k∈ks,k.prt s T=(T.filter (inT k)).flatMap (pcT s)
 |[],_,_,_,_,_,_,k,h=>by cases h
 |x::xs,a,e,hi,hc,h2,he,k,hk=>by
  obtain⟨i1,i2,i3,i4,i5⟩:=hi;have hm:=AkD i5;have hle:x.en≤(s.length:Nat):=by omega
  rcases List.mem_cons.1 hk with ek | hk
  ·rw[ek];exact prt_in hs h0 x i4 hc.1 h2.1 hle
  ·exact prts_in hs h0 xs i5 hc.2 h2.2 he k hk
end
end
theorem prt_root{s:Str}{T:List Tk}(h:Chn s.length 0 T){tx:Str}{b:Bool}{ks:List Tr}(hi:inss 0 (s.length:Nat) ks)(hc:cutss T ks)(h2:no2s ks):(Tr.mk 2 tx 0 (s.length:Nat) b ks).prt s T=s:=by
 have hs:=h.srt;have hb:=h.bd;have h0:∀t∈T,t.a≤t.e∧(t.k≠5→t.a<t.e):=fun t ht=>⟨(hb t ht).2.1,(hb t ht).2.2.2.1⟩
 have ih:=prts_in (s:=s) hs h0 ks hi hc h2 (Int.le_refl _);have hm:=AkD hi;rw[Tr.prt,prts_map]
 have e:T.filter (ownT (.mk 2 tx 0 (s.length:Nat) b ks))=T.filter fun t=>!(ks.any fun k=>inT k t):=by
  refine List.filter_congr fun t ht=>?_
  have hmi:mineT (.mk 2 tx 0 (s.length:Nat) b ks) t=true:=by
   unfold mineT;by_cases h5:t.k=5
   ·rw[show(t.k==5)=true by simp[h5]];simp[Tr.kind]
   ·rw[AxG.2 ⟨h5,by show(0:Int)≤_;omega,by show _≤((s.length:Nat):Int);have:=(hb t ht).2.2.1;omega⟩];rfl
  show(mineT _ t&&!(ks.any fun k=>inT k t))=_
  rw[hmi];rfl
 rw[e,AXI s (fun k=>k.prt s T) ks T 0 _ hi (Int.le_refl _) hs h0 (fun k hk t ht=>?_) ih,h.text rfl]
 ·rfl
 ·by_cases h5:t.k=5
  ·refine .inr (.inr ?_)
   have:=(hb t ht).2.2.2.2 h5;have:=hm k hk;omega
  ·exact(AZZ hc k hk).tri ht h5
instance:DecidableEq Tk:=fun a b=>
 if h:a.k=b.k∧a.f=b.f∧a.a=b.a∧a.e=b.e then .isTrue (by obtain⟨h1,h2,h3,h4⟩:=h;cases a;cases b;simp_all) else .isFalse fun e=>h (by subst e;exact⟨rfl,rfl,rfl,rfl⟩)
section
variable{t:Tk}
mutual
theorem cnt_in(h0:t.k≠5→t.a<t.e):∀x:Tr,x.ins→x.no2→x.nds.countP (fun y=>ownT y t)=if inT x t then 1 else 0
 |.mk kd tx st en b ks,hi,h2=>by
  have ih:=cnts_in h0 ks hi h2.2;have hm:=AkD hi;rw[Tr.nds,List.countP_cons,ih];have hk:(kd==2)=false:=beq_false_of_ne h2.1
  have e:ownT (.mk kd tx st en b ks) t=(inT (.mk kd tx st en b ks) t&&!(ks.any fun k=>inT k t)):=by
   show((inT (.mk kd tx st en b ks) t||(t.k==5&&kd==2))&&!(ks.any fun k=>inT k t))=_
   rw[hk,Bool.and_false,Bool.or_false]
  rw[e];cases h:inT (.mk kd tx st en b ks) t with
  |true=>cases ks.any fun k=>inT k t<;>rfl
  |false=>
   have:(ks.any fun k=>inT k t)=false:=List.any_eq_false.2 fun k hk' hkt=>by
    have q:=AxG.1 hkt;have:=hm k hk';rw[Bool.eq_false_iff] at h;exact h (AxG.2 ⟨q.1,by show st≤_;omega,by show _≤en;omega⟩)
   rw[this];rfl
theorem cnts_in(h0:t.k≠5→t.a<t.e):∀(ks:List Tr) {a e:Int},inss a e ks→no2s ks→(ndss ks).countP (fun y=>ownT y t)=if(ks.any fun k=>inT k t) then 1 else 0
 |[],_,_,_,_=>rfl
 |x::xs,a,e,hi,h2=>by
  obtain⟨i1,i2,i3,i4,i5⟩:=hi;have hm:=AkD i5;rw[ndss,List.countP_append,cnt_in h0 x i4 h2.1,cnts_in h0 xs i5 h2.2,List.any_cons];cases h:inT x t with
  |false=>simp
  |true=>
   have:(xs.any fun k=>inT k t)=false:=List.any_eq_false.2 fun k hk' hkt=>by
    have q:=AxG.1 hkt;have q':=AxG.1 h;have:=hm k hk';have:=h0 q.1;omega
   rw[this];rfl
end
end
theorem count_one:∀{T:List Tk},Srt T→∀t∈T,T.count t=1
 |[],_,t,h=>by cases h
 |u::T,hs,t,ht=>by
  obtain⟨s1,s2⟩:=List.pairwise_cons.1 hs;rw[List.count_cons];rcases List.mem_cons.1 ht with rfl | ht
  ·have:t∉T:=fun h=>by have:=s1 t h;omega
   rw[List.count_eq_zero.2 this];simp
  ·have hne:u≠t:=fun e=>by subst e;have:=s1 u ht;omega
   rw[count_one s2 t ht,show(u==t)=false from beq_false_of_ne hne];rfl
def ownS(T:List Tk)(l:List Tr):List Tk:=l.flatMap fun x=>T.filter (ownT x)
theorem AJV{T:List Tk}(hs:Srt T){t:Tk}(ht:t∈T):∀l:List Tr,(ownS T l).count t=l.countP fun y=>ownT y t
 |[]=>rfl
 |x::l=>by
  have ih:=AJV hs ht l;show(T.filter (ownT x)++ownS T l).count t=_;rw[List.count_append,ih,List.countP_cons];cases h:ownT x t with
  |true=>rw[List.count_filter h,count_one hs t ht];simp[Nat.add_comm]
  |false=>
   have:t∉T.filter (ownT x):=fun hm=>by rw[(List.mem_filter.1 hm).2] at h;cases h
   rw[List.count_eq_zero.2 this];simp
theorem ownS_root{s:Str}{T:List Tk}(h:Chn s.length 0 T){tx:Str}{b:Bool}{ks:List Tr}(hi:inss 0 (s.length:Nat) ks)(h2:no2s ks):(ownS T (Tr.mk 2 tx 0 (s.length:Nat) b ks).nds).Perm T:=by
 have hs:=h.srt;have hb:=h.bd;refine List.perm_iff_count.2 fun t=>?_
 by_cases ht:t∈T
 ·rw[AJV hs ht,count_one hs t ht,Tr.nds,List.countP_cons,cnts_in (hb t ht).2.2.2.1 ks hi h2]
  have hmi:mineT (.mk 2 tx 0 (s.length:Nat) b ks) t=true:=by
   unfold mineT;by_cases h5:t.k=5
   ·rw[show(t.k==5)=true by simp[h5]];simp[Tr.kind]
   ·rw[AxG.2 ⟨h5,by show(0:Int)≤_;omega,by show _≤((s.length:Nat):Int);have:=(hb t ht).2.2.1;omega⟩];rfl
  have e:ownT (.mk 2 tx 0 (s.length:Nat) b ks) t=!(ks.any fun k=>inT k t):=by
   show(mineT _ t&&!(ks.any fun k=>inT k t))=_
   rw[hmi];rfl
  rw[e];cases ks.any fun k=>inT k t<;>rfl
 ·rw[List.count_eq_zero.2 ht,List.count_eq_zero];intro hm;obtain⟨x,_,hx⟩:=List.mem_flatMap.1 hm;exact ht (List.mem_filter.1 hx).1
theorem cut0(T:List Tk):Cut T 0:=fun t _=>.inr (by omega)
theorem cut_tok{T:List Tk}(hs:Srt T)(hae:∀t∈T,t.a≤t.e){u:Tk}(hu:u∈T):Cut T (u.a:Nat)∧Cut T (u.e:Nat):=by
 have key:∀t∈T,t=u∨t.e≤u.a∨u.e≤t.a:=by
  clear hae
  induction T with
  |nil=>intro t h;cases h
  |cons x T ih=>
   obtain⟨s1,s2⟩:=List.pairwise_cons.1 hs;intro t ht;rcases List.mem_cons.1 ht with e1 | ht'
   ·rcases List.mem_cons.1 hu with e2 | hu'
    ·exact .inl (e1.trans e2.symm)
    ·exact .inr (.inl (by rw[e1];exact(s1 u hu').1))
   ·rcases List.mem_cons.1 hu with e2 | hu'
    ·exact .inr (.inr (by rw[e2];exact(s1 t ht').1))
    ·exact ih s2 hu' t ht'
 have hu2:=hae u hu;refine⟨fun t ht=>?_,fun t ht=>?_⟩
 ·have h2:=hae t ht;rcases key t ht with rfl | h | h
  ·exact .inr (by omega)
  ·exact .inl (by omega)
  ·exact .inr (by omega)
 ·have h2:=hae t ht;rcases key t ht with rfl | h | h
  ·exact .inl (by omega)
  ·exact .inl (by omega)
  ·exact .inr (by omega)
section
variable{T ls:List Tk}(hs:Srt T)(hae:∀t∈T,t.a≤t.e)(hl:∀t∈ls,t∈T)
include hs hae hl
theorem cut_tA(i:Nat):Cut T (tA ls i:Nat):=by
 unfold tA;cases h:ls[i]? with
 |none=>exact cut0 T
 |some t=>exact(cut_tok hs hae (hl t (List.mem_of_getElem? h))).1
theorem cut_en(i:Nat):Cut T (en ls i:Nat):=by
 cases i with
 |zero=>exact cut0 T
 |succ i=>
  show Cut T (tE ls i:Nat);unfold tE;cases h:ls[i]? with
  |none=>exact cut0 T
  |some t=>exact(cut_tok hs hae (hl t (List.mem_of_getElem? h))).2
end
section
variable{T ls:List Tk}
mutual
theorem trP_cuts(hs:Srt T)(hae:∀t∈T,t.a≤t.e)(hl:∀t∈ls,t∈T):∀x:AT,(trP ls x).cuts T
 |.mk kd tx f k b ks=>by
  have ih:=AXV hs hae hl ks
  have h1:Cut T (if f<k then((tA ls f:Nat):Int) else(en ls k:Nat)):=by
   split
   ·exact cut_tA hs hae hl f
   ·exact cut_en hs hae hl k
  rw[trP];refine⟨?_,cut_en hs hae hl k,ih⟩
  cases hx:trPs ls ks with
  |nil=>exact h1
  |cons u us=>
   rw[hx] at ih;show Cut T (min _ u.st)
   have hu:Cut T u.st:=by
    obtain⟨kd',tx',st',en',b',ks'⟩:=u;exact ih.1.1
   rcases Int.le_total (if f<k then((tA ls f:Nat):Int) else(en ls k:Nat)) u.st with h | h
   ·rw[Int.min_eq_left h];exact h1
   ·rw[Int.min_eq_right h];exact hu
theorem AXV(hs:Srt T)(hae:∀t∈T,t.a≤t.e)(hl:∀t∈ls,t∈T):∀xs:List AT,cutss T (trPs ls xs)
 |[]=>trivial
 |x::xs=>⟨trP_cuts hs hae hl x,AXV hs hae hl xs⟩
end
end
mutual
def AT.no2:AT→Prop
 |.mk kd _ _ _ _ ks=>kd≠2∧atno ks
def atno:List AT→Prop
 |[]=>True
 |x::xs=>x.no2∧atno xs
end
mutual
theorem trP_no2(ls:List Tk):∀x:AT,x.no2→(trP ls x).no2
 |.mk kd tx f k b ks,h=>by
  rw[trP];exact⟨fun e=>h.1 (by omega),trPs_no2 ls ks h.2⟩
theorem trPs_no2(ls:List Tk):∀xs:List AT,atno xs→no2s (trPs ls xs)
 |[],_=>trivial
 |x::xs,h=>⟨trP_no2 ls x h.1,trPs_no2 ls xs h.2⟩
end
theorem Ak2:∀{xs:List AT} {x:AT},atno xs→x.no2→atno (xs++[x])
 |[],x,_,h=>⟨h,trivial⟩
 |y::xs,x,h,h'=>⟨h.1,Ak2 h.2 h'⟩
end Go.Abs.Z

namespace Go.Abs.Z
open Pg
set_option linter.unusedVariables false
def RsK(v:Rs):Prop:=v.1.no2∧atno v.2
def NTK:NT→Prop
 |.lp _ _ x=>x.no2
 |.tl _ acc=>atno acc
 |.sts acc=>atno acc
 |.pg acc=>atno acc
 |_=>True
def KdP:Pg→Prop
 |.ret v=>RsK v
 |.look f=>∀a b k,KdP (f a b k)
 |.read p=>KdP p
 |.report _ _ p=>KdP p
 |.call x f=>NTK x∧∀r,RsK r→KdP (f r)
theorem kd_run{w:Nat→Wd}{c:NT→Nat→List AD→Ans3}(hc:∀x k D v k1 D1,c x k D=some (v,k1,D1)→NTK x→RsK v):∀(p:Pg) {k:Nat} {D:List AD} {v:Rs} {k1:Nat} {D1:List AD},KdP p→runP w c p k D=some (v,k1,D1)→RsK v
 |.ret v,k,D,_,_,_,h,e=>by cases e;exact h
 |.look f,k,D,v,k1,D1,h,e=>kd_run hc (f _ _ _) (h _ _ _) e
 |.read p,k,D,v,k1,D1,h,e=>by
  rw[runP] at e
  split at e
  ·cases e
  ·exact kd_run hc p h e
 |.report c t p,k,D,v,k1,D1,h,e=>kd_run hc p h e
 |.call x f,k,D,v,k1,D1,h,e=>by
  obtain⟨⟨r,k2,D2⟩,h1,h2⟩:=Option.bind_eq_some_iff.1 e;exact kd_run hc (f r) (h.2 r (hc _ _ _ _ _ _ h1 h.1)) h2
abbrev GK(g:AT→Pg):Prop:=∀x,x.no2→KdP (g x)
abbrev GL(g:List AT→Pg):Prop:=∀l,atno l→KdP (g l)
theorem kdefault:(default:Rs).1.no2:=⟨by decide,trivial⟩
theorem k_ifW{ws:List (List UInt8)}{p q:Pg}(h:KdP p)(h':KdP q):KdP (ifW ws p q):=fun a b k=>by
 show KdP (if _ then p else q)
 split<;>assumption
theorem k_ifK{n:Nat}{p q:Pg}(h:KdP p)(h':KdP q):KdP (ifK n p q):=fun a b k=>by
 show KdP (if _ then p else q)
 split<;>assumption
theorem k_mrk{g:Nat→Pg}(h:∀k,KdP (g k)):KdP (mrk g):=fun _ _ k=>h k
theorem k_xp{x:List UInt8}{p:Pg}(h:KdP p):KdP (xp x p):=k_ifW h h
theorem k_rd{g:List UInt8→Pg}(h:∀x,KdP (g x)):KdP (rd g):=fun a _ _=>h a.2
theorem k_nm{g:List UInt8→Pg}(h:∀x,KdP (g x)):KdP (nm g):=k_ifK (k_rd h) (h [])
theorem k_num{g:List UInt8→Pg}(h:∀x,KdP (g x)):KdP (num g):=k_ifK (k_rd fun x=>h _) (h [])
theorem k_bd{kd:Nat}{tx:List UInt8}{f:Nat}{b:Bool}{ks:List AT}{g:AT→Pg}(h2:kd≠2)(hk:atno ks)(h:GK g):KdP (bd kd tx f b ks g):=fun _ _ k=>h _ ⟨h2,hk⟩
theorem k_nod{kd:Nat}{tx:List UInt8}{f:Nat}{ks:List AT}(h2:kd≠2)(hk:atno ks):KdP (nod kd tx f ks):=k_bd h2 hk fun x hx=>⟨hx,trivial⟩
theorem k_cl{x:NT}{g:AT→Pg}(hx:NTK x)(h:GK g):KdP (cl x g):=⟨hx,fun r hr=>h _ hr.1⟩
theorem k_lst{x:NT}(hx:NTK x):KdP (lst x):=⟨hx,fun r hr=>hr⟩
theorem k_nop{g:AT→Pg}(h:GK g):KdP (nop g):=k_mrk fun f=>k_bd (by decide) trivial h
theorem k_miss{g:AT→Pg}(h:GK g):KdP (miss g):=k_mrk fun f=>k_bd (by decide) trivial h
theorem k_one{x:AT}(h:x.no2):atno [x]:=⟨h,trivial⟩
theorem k_two{x y:AT}(h:x.no2)(h':y.no2):atno [x,y]:=⟨h,h',trivial⟩
theorem AZM{x y z:AT}(h:x.no2)(h':y.no2)(h3:z.no2):atno [x,y,z]:=⟨h,h',h3,trivial⟩
theorem AZN{p:Pg}(h:KdP p):KdP (.read p):=h
theorem k_rep{c:Nat}{t:List UInt8}{p:Pg}(h:KdP p):KdP (.report c t p):=h
theorem k_wr{g:AT→Pg}(h:GK g):KdP (written g):=
 k_ifW (AZN (k_mrk fun f=>k_ifW (AZN (k_ifW (AZN (k_num fun n=>k_xp (k_bd (by decide) trivial h))) (k_bd (by decide) trivial h)))
  (k_ifW (AZN (k_bd (by decide) trivial h)) (k_ifK (k_rd fun x=>k_bd (by decide) trivial h) (k_rep (k_miss h)))))) (k_nop h)
theorem k_field{g:AT→Pg}(h:GK g):KdP (fieldP g):=k_mrk fun f=>k_nm fun x=>k_xp (k_ifW (k_mrk fun f2=>k_rd fun t=>k_bd (by decide) trivial fun y hy=>k_bd (by decide) (k_one hy) h)
 (k_miss fun y hy=>k_bd (by decide) (k_one hy) h))
theorem k_param{g:AT→Pg}(h:GK g):KdP (AJT g):=k_mrk fun f=>k_ifW (k_nm fun x=>k_wr fun t ht=>k_bd (by decide) (k_one ht) h) (k_nm fun x=>k_wr fun t ht=>k_bd (by decide) (k_one ht) h)
theorem k_elem:∀(e:El) {g:AT→Pg},GK g→KdP (elemP e g)
 |.fd,g,h=>k_field h
 |.pa,g,h=>k_param h
 |.ex,g,h=>k_cl (x:=.ex 1) trivial h
theorem k_list{e:El}{g:List AT→Pg}(h:GL g):KdP (listP e g):=k_elem e fun x hx=>⟨k_one hx,fun r hr=>h _ hr.2⟩
theorem k_record{g:AT→Pg}(h:GK g):KdP (AZ6 g):=k_mrk fun f=>k_nm fun x=>k_xp (k_list fun l hl=>k_xp (k_bd (by decide) hl h))
theorem k_params{g:AT→Pg}(h:GK g):KdP (AZ9 g):=k_mrk fun f=>k_xp (k_ifW (k_xp (k_bd (by decide) trivial h)) (k_list fun l hl=>k_xp (k_bd (by decide) hl h)))
theorem k_proc{g:AT→Pg}(h:GK g):KdP (procP g):=k_mrk fun f=>k_nm fun x=>k_params fun a ha=>k_wr fun t ht=>k_cl (x:=.bk) trivial fun b hb=>k_bd (by decide) (AZM ha ht hb) h
theorem k_args{g:List AT→Pg}(h:GL g):KdP (argsP g):=k_ifW (k_xp (h [] trivial)) (k_list fun l hl=>k_xp (h l hl))
theorem k_var{g:AT→Pg}(h:GK g):KdP (Aj4 g):=k_mrk fun f=>k_nm fun x=>k_bd (by decide) trivial h
theorem k_place{g:AT→Pg}(h:GK g):KdP (AX3 g):=k_mrk fun f=>k_var fun v hv=>k_ifW (k_cl (x:=.ex 1) trivial fun y hy=>k_xp (k_bd (by decide) (k_two hv hy) h))
 (k_ifW (k_nm fun x=>k_bd (by decide) (k_one hv) h) (h v hv))
theorem k_ret{x:AT}(h:x.no2):KdP (.ret (x,[])):=⟨h,trivial⟩
theorem k_lv4:KdP lv4P:=k_mrk fun f=>k_cl (x:=.ex 5) trivial fun x hx=>k_ifW (k_rd fun o=>k_cl (x:=.ex 5) trivial fun y hy=>k_nod (by decide) (k_two hx hy)) (k_ret hx)
theorem k_prim:KdP primP:=k_mrk fun f=>k_ifK (k_rd fun x=>k_nod (by decide) trivial) (k_ifW (k_rd fun x=>k_nod (by decide) trivial) fun a b k=>by
 show KdP (if _ then _ else _)
 split
 ·exact k_rd fun x=>k_args fun l hl=>k_nod (by decide) hl
 ·split
  ·exact k_place fun x hx=>k_ret hx
  ·exact k_ifW (k_list fun l hl=>k_xp (k_nod (by decide) hl)) (k_ifW (k_xp (k_var fun v hv=>k_xp (k_nod (by decide) (k_one hv))))
    (k_ifW (k_cl (x:=.ex 1) trivial fun x hx=>k_xp (k_ret hx)) (k_miss fun x hx=>k_ret hx))))
theorem k_sv:KdP svP:=k_mrk fun f=>k_nm fun x=>k_wr fun t ht=>k_xp (k_cl (x:=.ex 1) trivial fun v hv=>k_xp (k_nod (by decide) (k_two ht hv)))
theorem k_while:KdP whileP:=k_mrk fun f=>k_cl (x:=.ex 1) trivial fun c hc=>k_cl (x:=.bk) trivial fun b hb=>k_nod (by decide) (k_two hc hb)
theorem k_for:KdP forP:=k_mrk fun f=>k_nm fun x=>k_xp (k_cl (x:=.ex 1) trivial fun a ha=>k_xp (k_cl (x:=.ex 1) trivial fun c hc=>k_cl (x:=.bk) trivial fun b hb=>k_nod (by decide) (AZM ha hc hb)))
theorem k_return:KdP returnP:=k_mrk fun f=>fun a b k=>by
 show KdP (if _ then _ else _)
 split
 ·exact k_cl (x:=.ex 1) trivial fun x hx=>k_xp (k_nod (by decide) (k_one hx))
 ·exact k_nop fun x hx=>k_xp (k_nod (by decide) (k_one hx))
theorem k_assert:KdP assertP:=k_mrk fun f=>k_cl (x:=.ex 1) trivial fun x hx=>k_xp (k_nod (by decide) (k_one hx))
theorem k_simple:KdP simpleP:=k_mrk fun f=>fun a b k=>by
 show KdP (if _ then _ else _)
 split
 ·exact k_rd fun x=>k_args fun l hl=>k_xp (k_nod (by decide) hl)
 ·exact k_place fun x hx=>k_xp (k_cl (x:=.ex 1) trivial fun y hy=>k_xp (k_nod (by decide) (k_two hx hy)))
theorem AK1:KdP (.ret default):=⟨kdefault,trivial⟩
theorem k_acc{acc:List AT}(h:atno acc):KdP (.ret (default,acc)):=⟨kdefault,h⟩
theorem kd_prog:∀x:NT,NTK x→KdP (prog x)
 |.ex L,_=>by
  by_cases h3:L=3
  ·subst h3;exact k_mrk fun f=>k_ifW (k_cl (x:=.ex 3) trivial fun x hx=>k_nod (by decide) (k_one hx)) k_lv4
  ·by_cases h7:L=7
   ·subst h7;exact k_mrk fun f=>k_ifW (k_cl (x:=.ex 7) trivial fun x hx=>k_nod (by decide) (k_one hx)) k_prim
   ·have e:prog (.ex L)=Pg.mrk fun f=>Pg.cl (.ex (L+1)) fun x=>Pg.lst (.lp L f x):=by
     rw[prog]
     ·exact fun h=>h3 h
     ·exact fun h=>h7 h
    rw[e];exact k_mrk fun f=>k_cl (x:=.ex (L+1)) trivial fun x hx=>k_lst (x:=.lp L f x) hx
 |.lp L f x,hx=>k_ifW (k_rd fun o=>k_cl (x:=.ex (L+1)) trivial fun y hy=>k_bd (by decide) (k_two hx hy) fun z hz=>k_lst (x:=.lp L f z) hz) (k_ret hx)
 |.tl e acc,ha=>k_ifW (k_elem e fun x hx=>k_lst (x:=.tl e (acc++[x])) (Ak2 ha hx)) (k_acc ha)
 |.bk,_=>k_mrk fun f=>k_ifW (AZN ⟨trivial,fun r hr=>k_xp (k_nod (by decide) hr.2)⟩) (k_rep<|k_bd (by decide) trivial fun x hx=>k_ret hx)
 |.sts acc,ha=>k_ifW (k_acc ha) (k_ifK (k_acc ha) (k_cl (x:=.st) trivial fun x hx=>k_lst (x:=.sts (acc++[x])) (Ak2 ha hx)))
 |.st,_=>k_ifW k_sv (k_ifW (k_lst (x:=.br) trivial) (k_ifW k_while (k_ifW k_for (k_ifW k_return (k_ifW k_assert (k_ifK k_simple
   (k_mrk fun f=>⟨trivial,fun _ _=>k_nod (by decide) trivial⟩)))))))
 |.br,_=>k_mrk fun f=>AZN<|k_cl (x:=.ex 1) trivial fun c hc=>k_cl (x:=.bk) trivial fun b hb=>k_ifW (AZN<|k_ifW (k_cl (x:=.br) trivial fun o ho=>k_nod (by decide) (AZM hc hb ho)) (k_cl (x:=.bk) trivial fun o ho=>k_nod (by decide) (AZM hc hb ho)))
   (k_nop fun o ho=>k_nod (by decide) (AZM hc hb ho))
 |.sk f,_=>k_ifK AK1 (k_mrk fun k=>by
   show KdP (if _ then _ else _)
   have key:KdP (rd fun x=>if x=[59] then .ret default else lst (.sk f)):=k_rd fun x=>by
    show KdP (if _ then _ else _)
    split
    ·exact AK1
    ·exact k_lst (x:=.sk f) trivial
   split
   ·exact k_ifW AK1 key
   ·exact k_ifW AK1 key)
 |.sp,_=>k_ifK AK1 (k_ifW AK1 (k_lst (x:=.sp) trivial))
 |.pg acc,ha=>k_ifK (k_acc ha) (k_ifW (k_record fun x hx=>k_lst (x:=.pg (acc++[x])) (Ak2 ha hx)) (k_ifW (k_proc fun x hx=>k_lst (x:=.pg (acc++[x])) (Ak2 ha hx))
   (k_mrk fun f=>⟨trivial,fun _ _=>k_bd (by decide) trivial fun x hx=>k_lst (x:=.pg (acc++[x])) (Ak2 ha hx)⟩)))
theorem kd_N{w:Nat→Wd}:∀(n:Nat) (x:NT) (k:Nat) (D:List AD) (v:Rs) (k1:Nat) (D1:List AD),runN w n x k D=some (v,k1,D1)→NTK x→RsK v
 |0,x,k,D,v,k1,D1,h,_=>by cases h
 |n+1,x,k,D,v,k1,D1,h,hx=>kd_run (kd_N n) (prog x) (kd_prog x hx) h
end Go.Abs.Z

namespace Go.Abs.Z
set_option linter.unusedVariables false
open Pg
theorem rp_ne(D:List AD)(c k:Nat)(t:List UInt8):rp D c k t≠[]:=by
 unfold rp;split
 ·rename_i h;intro e;subst e;simp at h
 ·simp
def DM(c:NT→Nat→List AD→Ans3):Prop:=∀x k D v k1 D1,c x k D=some (v,k1,D1)→k≤k1∧(D≠[]→D1≠[])
section
variable{w w':Nat→Wd}{m:Nat}{c c':NT→Nat→List AD→Ans3}
theorem runP_dm(hc:DM c):∀(p:Pg) k D v k1 D1,runP w c p k D=some (v,k1,D1)→k≤k1∧(D≠[]→D1≠[]):=by
 intro p
 induction p with
 |ret v=>intro k D v k1 D1 h;cases h;exact⟨Nat.le_refl _,id⟩
 |look f ih=>intro k D v k1 D1 h;exact ih _ _ _ k D v k1 D1 h
 |read p ih=>
  intro k D v k1 D1 h;simp only[runP] at h
  split at h
  ·cases h
  ·obtain⟨h1,h2⟩:=ih _ _ _ _ _ h;exact⟨by omega,h2⟩
 |report e t p ih=>
  intro k D v k1 D1 h;obtain⟨h1,h2⟩:=ih _ _ _ _ _ h;exact⟨h1,fun _=>h2 (rp_ne _ _ _ _)⟩
 |call x f ih=>
  intro k D v k1 D1 h;simp only[runP] at h;obtain⟨⟨u,k2,D2⟩,h1,h2⟩:=Option.bind_eq_some_iff.1 h;obtain⟨a1,a2⟩:=hc _ _ _ _ _ _ h1;obtain⟨b1,b2⟩:=ih _ _ _ _ _ _ h2;have b1:k2≤k1:=b1;exact⟨by omega,fun hD=>b2 (a2 hD)⟩
theorem runN_dm:∀n,DM (runN w n)
 |0=>fun x k D v k1 D1 h=>by cases h
 |n+1=>fun x k D v k1 D1 h=>runP_dm (runN_dm n) (prog x) k D v k1 D1 h
end
mutual
def AT.size:AT→Nat
 |.mk _ _ _ _ _ ks=>1+sizes ks
def sizes:List AT→Nat
 |[]=>0
 |x::xs=>x.size+sizes xs
end
theorem Av8:∀(xs:List AT) (x:AT),sizes (xs++[x])=sizes xs+x.size
 |[],x=>by simp[sizes]
 |y::xs,x=>by simp only[List.cons_append,sizes,Av8 xs x];omega
theorem AqZ(x:AT):sizes [x]=x.size:=by simp[sizes]
theorem Aj5(x y:AT):sizes [x,y]=x.size+y.size:=by simp[sizes]
theorem Aj6(x y z:AT):sizes [x,y,z]=x.size+y.size+z.size:=by simp[sizes];omega
def vsz:NT→Rs→Nat
 |.tl _ _,v=>sizes v.2
 |.sts _,v=>sizes v.2
 |.pg _,v=>sizes v.2
 |.sk _,_=>1
 |.sp,_=>0
 |_,v=>v.1.size
def stopA(a:Wd):Prop:=stopW.contains a.2=true∨a.1=5
instance (a:Wd):Decidable (stopA a):=inferInstanceAs (Decidable (_∨_))
def csz:NT→Nat→Wd→Nat
 |.ex _,_,_=>1
 |.lp _ _ x,_,_=>x.size
 |.tl _ acc,_,_=>sizes acc
 |.bk,_,_=>1
 |.sts acc,_,_=>sizes acc
 |.st,_,a=>if stopA a then 1 else 0
 |.br,_,_=>0
 |.sk f,k,a=>if k=f∧¬stopA a then 0 else 1
 |.sp,_,_=>0
 |.pg acc,_,_=>sizes acc
def Sz(R:Rs→Nat):Pg→Nat→Wd→Nat→Prop
 |.ret v,_,_,c=>R v≤c
 |.look f,k,a,c=>∀b,Sz R (f a b k) k a c
 |.read p,k,a,c=>a.1≠5→∀a',Sz R p (k+1) a' (c+16)
 |.report _ _ p,k,a,c=>Sz R p k a c
 |.call x f,k,a,c=>∀v d k' a',vsz x v≤csz x k a+d→Sz R (f v) k' a' (c+d)
theorem szP{w:Nat→Wd}{c:NT→Nat→List AD→Ans3}(hm:DM c)(hc:∀x k D v k1 D1,c x k D=some (v,k1,D1)→vsz x v≤csz x k (w k)+16 * (k1 - k)){R:Rs→Nat}:
  ∀(p:Pg) (k:Nat) (D:List AD) (v:Rs) (k1:Nat) (D1:List AD) (z:Nat),runP w c p k D=some (v,k1,D1)→Sz R p k (w k) z→R v≤z+16 * (k1 - k):=by
 intro p
 induction p with
 |ret u=>intro k D v k1 D1 z h hs;cases h;exact Nat.le_trans hs (Nat.le_add_right _ _)
 |look f ih=>intro k D v k1 D1 z h hs;exact ih _ _ _ k D v k1 D1 z h (hs _)
 |read p ih=>
  intro k D v k1 D1 z h hs;simp only[runP] at h
  split at h
  ·cases h
  ·rename_i h5;have h1:=(runP_dm hm _ _ _ _ _ _ h).1;have:=ih _ _ _ _ _ _ h (hs h5 _);omega
 |report e t p ih=>intro k D v k1 D1 z h hs;exact ih _ _ _ _ _ _ h hs
 |call x f ih=>
  intro k D v k1 D1 z h hs;simp only[runP] at h;obtain⟨⟨u,k2,D2⟩,g1,g2⟩:=Option.bind_eq_some_iff.1 h;have h1:k≤k2:=(hm _ _ _ _ _ _ g1).1;have h2:k2≤k1:=(runP_dm hm _ _ _ _ _ _ g2).1;have h3:R v≤z+16 * (k2 - k)+16 * (k1 - k2):=ih _ _ _ _ _ _ _ g2 (hs u (16 * (k2 - k)) k2 (w k2) (hc _ _ _ _ _ _ g1));omega
section
variable{R:Rs→Nat}{p q:Pg}{c:Nat}
def SzA(R:Rs→Nat)(p:Pg)(c:Nat):Prop:=∀k a,Sz R p k a c
theorem Sz.up:∀(p:Pg) (k:Nat) (a:Wd) (c c':Nat),Sz R p k a c→c≤c'→Sz R p k a c':=by
 intro p
 induction p with
 |ret v=>intro k a c c' h hc;exact Nat.le_trans h hc
 |look f ih=>intro k a c c' h hc b;exact ih _ _ _ _ _ _ _ (h b) hc
 |read p ih=>intro k a c c' h hc h5 a';exact ih _ _ _ _ (h h5 a') (by omega)
 |report e t p ih=>intro k a c c' h hc;exact ih _ _ _ _ h hc
 |call x f ih=>intro k a c c' h hc v d k' a' hv;exact ih _ _ _ _ _ (h v d k' a' hv) (by omega)
theorem SzA.up{c':Nat}(h:SzA R p c)(hc:c≤c'):SzA R p c':=fun k a=>Sz.up p k a c c' (h k a) hc
theorem SzA.ret{v:Rs}(h:R v≤c):SzA R (.ret v) c:=fun _ _=>h
theorem SzA.rea(h:SzA R p (c+16)):SzA R (.read p) c:=fun k a _ a'=>h (k+1) a'
theorem SzA.rea0(h:SzA R p c):SzA R (.read p) c:=SzA.rea (h.up (by omega))
theorem SzA.rep{e:Nat}{t:List UInt8}(h:SzA R p c):SzA R (.report e t p) c:=fun k a=>h k a
theorem SzA.call{x:NT}{f:Rs→Pg}(m:Nat)(hx:∀k a,csz x k a≤m)(h:∀v d,vsz x v≤m+d→SzA R (f v) (c+d)):SzA R (.call x f) c:=fun k a v d k' a' hv=>h v d (Nat.le_trans hv (Nat.add_le_add_right (hx k a) d)) k' a'
theorem SzA.lst{x:NT}(m:Nat)(hx:∀k a,csz x k a≤m)(h:∀v d,vsz x v≤m+d→R v≤c+d):SzA R (Pg.lst x) c:=SzA.call m hx fun v d hv=>SzA.ret (h v d hv)
theorem SzA.ite{P:Prop}[Decidable P](hp:SzA R p c)(hq:SzA R q c):SzA R (if P then p else q) c:=by split<;>assumption
theorem SzA.ifW{ws:List (List UInt8)}(hp:SzA R p c)(hq:SzA R q c):SzA R (Pg.ifW ws p q) c:=fun k a b=>SzA.ite hp hq k a
theorem SzA.ifK{j:Nat}(hp:SzA R p c)(hq:SzA R q c):SzA R (Pg.ifK j p q) c:=fun k a b=>SzA.ite hp hq k a
theorem SzA.ac{ws:List (List UInt8)}(hp:SzA R p (c+16))(hq:SzA R q c):SzA R (Pg.ifW ws (.read p) q) c:=SzA.ifW (SzA.rea hp) hq
theorem SzA.ac0{ws:List (List UInt8)}(hp:SzA R p c)(hq:SzA R q c):SzA R (Pg.ifW ws (.read p) q) c:=SzA.ifW (SzA.rea0 hp) hq
theorem SzA.mrk{g:Nat→Pg}(h:∀f,SzA R (g f) c):SzA R (Pg.mrk g) c:=fun k a b=>h k k a
theorem SzA.xp{x:List UInt8}(h:SzA R p c):SzA R (Pg.xp x p) c:=SzA.ac0 h (SzA.rep h)
theorem SzA.rd{g:List UInt8→Pg}(h:∀x,SzA R (g x) (c+16)):SzA R (Pg.rd g) c:=fun k a b=>SzA.rea (h _) k a
theorem SzA.nm{g:List UInt8→Pg}(h:∀x,SzA R (g x) c):SzA R (Pg.nm g) c:=SzA.ifK (SzA.rd fun x=>(h x).up (by omega)) (SzA.rep (h []))
theorem SzA.num{g:List UInt8→Pg}(h:∀x,SzA R (g x) c):SzA R (Pg.num g) c:=SzA.ifK (SzA.rd fun x=>(h _).up (by omega)) (SzA.rep (h []))
theorem SzA.bd{kd:Nat}{tx:List UInt8}{f:Nat}{b:Bool}{ks:List AT}{g:AT→Pg}(h:∀x:AT,x.size=1+sizes ks→SzA R (g x) c):SzA R (Pg.bd kd tx f b ks g) c:=fun k a _=>h (.mk kd tx f k b ks) rfl k a
theorem SzA.leaf{kd:Nat}{tx:List UInt8}{f:Nat}{b:Bool}{g:AT→Pg}(h:∀x:AT,x.size=1→SzA R (g x) c):SzA R (Pg.bd kd tx f b [] g) c:=SzA.bd fun x e=>h x (by rw[e];rfl)
theorem SzA.nop{g:AT→Pg}(h:∀x:AT,x.size=1→SzA R (g x) c):SzA R (Pg.nop g) c:=SzA.mrk fun _=>SzA.leaf h
theorem SzA.miss{g:AT→Pg}(h:∀x:AT,x.size=1→SzA R (g x) c):SzA R (Pg.miss g) c:=SzA.mrk fun _=>SzA.leaf h
theorem SzA.ex{L:Nat}{g:AT→Pg}(h:∀(x:AT) d,x.size≤1+d→SzA R (g x) (c+d)):SzA R (Pg.cl (.ex L) g) c:=fun k a v d k' a' hv=>h v.1 d hv k' a'
theorem SzA.blk{g:AT→Pg}(h:∀(x:AT) d,x.size≤1+d→SzA R (g x) (c+d)):SzA R (Pg.cl .bk g) c:=fun k a v d k' a' hv=>h v.1 d hv k' a'
theorem SzA.written{g:AT→Pg}(h:∀x:AT,x.size=1→SzA R (g x) c):SzA R (written g) c:=
 SzA.ac0 (SzA.mrk fun f=>SzA.ac0 (SzA.ac0 (SzA.num fun n=>SzA.xp (SzA.leaf h)) (SzA.leaf h)) (SzA.ac0 (SzA.leaf h) (SzA.ifK (SzA.rd fun x=>(SzA.leaf h).up (by omega)) (SzA.rep (SzA.miss h))))) (SzA.nop h)
theorem SzA.field{g:AT→Pg}(h:∀x:AT,x.size≤2→SzA R (g x) c):SzA R (fieldP g) c:=SzA.mrk fun f=>SzA.nm fun x=>SzA.xp (SzA.ifW (SzA.mrk fun f2=>SzA.rd fun t=>(SzA.leaf fun y hy=>SzA.bd fun z hz=>h z (by rw[hz,AqZ];omega)).up (by omega))
 (SzA.rep (SzA.miss fun y hy=>SzA.bd fun z hz=>h z (by rw[hz,AqZ];omega))))
theorem SzA.param{g:AT→Pg}(h:∀x:AT,x.size≤2→SzA R (g x) c):SzA R (AJT g) c:=SzA.mrk fun f=>SzA.ac0 (SzA.nm fun x=>SzA.written fun t ht=>SzA.bd fun z hz=>h z (by rw[hz,AqZ];omega)) (SzA.nm fun x=>SzA.written fun t ht=>SzA.bd fun z hz=>h z (by rw[hz,AqZ];omega))
theorem SzA.elem{e:El}{g:AT→Pg}(h:∀(x:AT) d,x.size≤2+d→SzA R (g x) (c+d)):SzA R (elemP e g) c:=by
 cases e with
 |fd=>exact SzA.field fun x hx=>h x 0 (by omega)
 |pa=>exact SzA.param fun x hx=>h x 0 (by omega)
 |ex=>exact SzA.ex fun x d hx=>h x d (by omega)
theorem SzA.tl{e:El}{acc:List AT}{f:Rs→Pg}(h:∀v d,sizes v.2≤sizes acc+d→SzA R (f v) (c+d)):SzA R (.call (.tl e acc) f) c:=fun k a v d k' a' hv=>h v d hv k' a'
theorem SzA.list{e:El}{g:List AT→Pg}(h:∀l d,sizes l≤2+d→SzA R (g l) (c+d)):SzA R (listP e g) c:=SzA.elem fun x d hx=>SzA.tl fun v d' hv=>by
 rw[AqZ] at hv;have:=h v.2 (d+d') (by omega)
 rwa [←Nat.add_assoc] at this
theorem SzA.record{g:AT→Pg}(h:∀(x:AT) d,x.size≤d→SzA R (g x) (c+d)):SzA R (AZ6 g) c:=SzA.mrk fun f=>SzA.rea (SzA.nm fun x=>SzA.xp (SzA.list fun l d hl=>SzA.xp (SzA.bd fun z hz=>by
 have:=h z (16+d) (by omega)
 rwa [←Nat.add_assoc] at this)))
theorem SzA.params{g:AT→Pg}(h:∀(x:AT) d,x.size≤3+d→SzA R (g x) (c+d)):SzA R (AZ9 g) c:=SzA.mrk fun f=>SzA.xp (SzA.ifW (SzA.xp (SzA.leaf fun x hx=>h x 0 (by omega))) (SzA.list fun l d hl=>SzA.xp (SzA.bd fun z hz=>h z d (by omega))))
theorem SzA.proc{g:AT→Pg}(h:∀(x:AT) d,x.size≤d→SzA R (g x) (c+d)):SzA R (procP g) c:=SzA.mrk fun f=>SzA.rea (SzA.nm fun x=>SzA.params fun a d ha=>SzA.written fun t ht=>SzA.blk fun b d' hb=>SzA.bd fun z hz=>by
 rw[Aj6] at hz;have:=h z (16+d+d') (by omega)
 rwa [show c+(16+d+d')=c+16+d+d' by omega] at this)
theorem SzA.args{g:List AT→Pg}(h:∀l d,sizes l≤d→SzA R (g l) (c+d)):SzA R (argsP g) c:=SzA.rea (SzA.ifW (SzA.xp ((h [] 0 (by simp[sizes])).up (by omega))) (SzA.list fun l d hl=>SzA.xp (by
 have:=h l (16+d) (by omega)
 rwa [←Nat.add_assoc] at this)))
theorem SzA.variable{g:AT→Pg}(h:∀x:AT,x.size=1→SzA R (g x) c):SzA R (Aj4 g) c:=SzA.mrk fun f=>SzA.nm fun x=>SzA.leaf h
theorem SzA.place{g:AT→Pg}(h:∀(x:AT) d,x.size≤1+d→SzA R (g x) (c+d)):SzA R (AX3 g) c:=SzA.mrk fun f=>SzA.variable fun v hv=>SzA.ac (SzA.ex fun y d hy=>SzA.xp (SzA.bd fun z hz=>by
  rw[Aj5] at hz;have:=h z (16+d) (by omega)
  rwa [←Nat.add_assoc] at this)) (SzA.ac (SzA.nm fun x=>SzA.bd fun z hz=>by
  rw[AqZ] at hz;exact h z 16 (by omega)) (h v 0 (by omega)))
theorem SzA.nod{kd:Nat}{tx:List UInt8}{f:Nat}{ks:List AT}(h:∀x:AT,x.size=1+sizes ks→R (x,[])≤c):SzA R (Pg.nod kd tx f ks) c:=SzA.bd fun x hx=>SzA.ret (h x hx)
end
theorem sz_lv4:SzA (vsz (.ex 3)) lv4P 1:=SzA.mrk fun f=>SzA.ex fun x d hx=>SzA.ifW (SzA.rd fun o=>SzA.ex fun y d' hy=>SzA.nod fun z hz=>by
 rw[Aj5] at hz;show z.size≤_;omega) (SzA.ret (by show x.size≤_;omega))
theorem sz_prim:SzA (vsz (.ex 7)) primP 1:=SzA.mrk fun f=>SzA.ifK (SzA.rd fun x=>SzA.nod fun z hz=>by show z.size≤_;simp[sizes] at hz;omega) (SzA.ifW (SzA.rd fun x=>SzA.nod fun z hz=>by show z.size≤_;simp[sizes] at hz;omega) fun k a b=>
 SzA.ite (SzA.rd fun x=>SzA.args fun l d hl=>SzA.nod fun z hz=>by show z.size≤_;omega) (SzA.ite (SzA.place fun x d hx=>SzA.ret (by show x.size≤_;omega))
  (SzA.ac (SzA.list fun l d hl=>SzA.xp (SzA.nod fun z hz=>by show z.size≤_;omega)) (SzA.ac (SzA.xp (SzA.variable fun v hv=>SzA.xp (SzA.nod fun z hz=>by show z.size≤_;rw[AqZ] at hz;omega)))
   (SzA.ac (SzA.ex fun x d hx=>SzA.xp (SzA.ret (by show x.size≤_;omega))) (SzA.rep (SzA.miss fun x hx=>SzA.ret (by show x.size≤_;omega))))))) k a)
theorem Sz.place0{R:Rs→Nat}{k:Nat}{a:Wd}{c:Nat}{g:AT→Pg}(h0:a.1=0)(h:∀(x:AT) d,x.size≤1+d→SzA R (g x) (c+16+d)):Sz R (AX3 g) k a c:=fun _ _ _=>by
 show Sz R (if a.1=0 then Pg.rd _ else _) k a c
 rw[if_pos h0]
 exact(SzA.rd fun x=>SzA.leaf fun v hv=>SzA.ac (SzA.ex fun y d hy=>SzA.xp (SzA.bd fun z hz=>by
  rw[Aj5] at hz;have:=h z (16+d) (by omega)
  rwa [←Nat.add_assoc] at this)) (SzA.ac (SzA.nm fun x=>SzA.bd fun z hz=>by
  rw[AqZ] at hz;exact h z 16 (by omega)) (h v 0 (by omega)))) k a
theorem Sz.simple{k:Nat}{a:Wd}(h0:a.1=0):Sz (vsz .st) simpleP k a 0:=fun _ b=>by
 show Sz _ (if b.2=[40] then _ else _) k a 0
 split
 ·exact(SzA.rd fun x=>SzA.args fun l d hl=>SzA.xp (SzA.nod fun z hz=>by show z.size≤_;omega)) k a
 ·exact Sz.place0 h0 fun x d hx=>SzA.xp (SzA.ex fun y d' hy=>SzA.xp (SzA.nod fun z hz=>by rw[Aj5] at hz;show z.size≤_;omega))
theorem sz_st(k:Nat)(a:Wd):Sz (vsz .st) (prog .st) k a (csz .st k a):=by
 have up:∀{p},SzA (vsz .st) p 0→Sz (vsz .st) p k a (csz .st k a):=fun h=>h.up (Nat.zero_le _) k a
 intro b;dsimp only;split
 ·exact up (SzA.mrk fun f=>SzA.rea (SzA.nm fun x=>SzA.written fun t ht=>SzA.xp (SzA.ex fun v d hv=>SzA.xp (SzA.nod fun z hz=>by rw[Aj5] at hz;show z.size≤_;omega))))
 intro b;dsimp only;split
 ·exact fun v d k' a' hv=>Nat.le_trans (show v.1.size≤0+d from hv) (by omega)
 intro b;dsimp only;split
 ·exact up (SzA.mrk fun f=>SzA.rea (SzA.ex fun c d hc=>SzA.blk fun b d' hb=>SzA.nod fun z hz=>by rw[Aj5] at hz;show z.size≤_;omega))
 intro b;dsimp only;split
 ·exact up (SzA.mrk fun f=>SzA.rea (SzA.nm fun x=>SzA.xp (SzA.ex fun u d hu=>SzA.xp (SzA.ex fun c d' hc=>SzA.blk fun b d2 hb=>SzA.nod fun z hz=>by rw[Aj6] at hz;show z.size≤_;omega))))
 intro b;dsimp only;split
 ·exact up (SzA.mrk fun f=>SzA.rea fun k a b=>SzA.ite (SzA.ex fun x d hx=>SzA.xp (SzA.nod fun z hz=>by rw[AqZ] at hz;show z.size≤_;omega)) (SzA.nop fun x hx=>SzA.xp (SzA.nod fun z hz=>by rw[AqZ] at hz;show z.size≤_;omega)) k a)
 intro b;dsimp only;split
 ·exact up (SzA.mrk fun f=>SzA.rea (SzA.ex fun x d hx=>SzA.xp (SzA.nod fun z hz=>by rw[AqZ] at hz;show z.size≤_;omega)))
 intro b;dsimp only;split
 ·rename_i h0;exact Sz.up _ _ _ _ _ (Sz.simple h0) (Nat.zero_le _)
 ·intro _ v d k' a' hv;refine SzA.nod (fun z hz=>?_) k' a'
  have hv:1≤(if k=k∧¬stopA a then 0 else 1)+d:=hv
  show z.size≤(if stopA a then 1 else 0)+d
  simp[sizes] at hz;by_cases hs:stopA a
  ·rw[if_pos hs];omega
  ·rw[if_pos ⟨rfl,hs⟩] at hv;omega
theorem sz_all:∀(x:NT) (k:Nat) (a:Wd),Sz (vsz x) (prog x) k a (csz x k a)
 |.ex L,k,a=>by
  by_cases h3:L=3
  ·subst h3;exact SzA.mrk (fun f=>SzA.ac (SzA.ex fun x d hx=>SzA.nod fun z hz=>by rw[AqZ] at hz;show z.size≤_;omega) sz_lv4) k a
  ·by_cases h7:L=7
   ·subst h7;exact SzA.mrk (fun f=>SzA.ac (SzA.ex fun x d hx=>SzA.nod fun z hz=>by rw[AqZ] at hz;show z.size≤_;omega) sz_prim) k a
   ·rw[prog]
    ·exact SzA.mrk (fun f=>SzA.ex fun x d hx=>SzA.lst x.size (fun _ _=>Nat.le_refl _) fun v d' hv=>by
      have hv:v.1.size≤x.size+d':=hv;show v.1.size≤1+d+d';omega) k a
    ·exact fun h=>h3 h
    ·exact fun h=>h7 h
 |.lp L f x,k,a=>(SzA.ifW (SzA.rd fun o=>SzA.ex fun y d hy=>SzA.bd fun z hz=>SzA.lst z.size (fun _ _=>Nat.le_refl _) fun v d' hv=>by
   have hv:v.1.size≤z.size+d':=hv;rw[Aj5] at hz;show v.1.size≤x.size+16+d+d';omega) (SzA.ret (Nat.le_refl _))) k a
 |.tl e acc,k,a=>(SzA.ac (SzA.elem fun x d hx=>SzA.lst (sizes (acc++[x])) (fun _ _=>Nat.le_refl _) fun v d' hv=>by
   have hv:sizes v.2≤sizes (acc++[x])+d':=hv;rw[Av8] at hv;show sizes v.2≤sizes acc+16+d+d';omega) (SzA.ret (Nat.le_refl _))) k a
 |.bk,k,a=>by
  show Sz (vsz .bk) (prog .bk) k a 1
  exact(SzA.mrk fun f=>SzA.ac (SzA.call (x:=.sts []) 0 (fun _ _=>Nat.le_refl _) fun v d hv=>SzA.xp (SzA.nod fun z hz=>by
   have hv:sizes v.2≤0+d:=hv;show z.size≤_;omega)) (SzA.rep (SzA.leaf fun x hx=>SzA.ret (by show x.size≤1;omega)))) k a
 |.sts acc,k,a=>by
  intro b;dsimp only;split
  ·exact Nat.le_refl _
  ·rename_i h1;intro b;dsimp only;split
   ·exact Nat.le_refl _
   ·rename_i h2;intro v d k' a' hv v' d' k2 a2 hv';have hs:¬stopA a:=fun h=>h.elim h1 h2
    have hv:v.1.size≤(if stopA a then 1 else 0)+d:=hv
    rw[if_neg hs] at hv;have hv':sizes v'.2≤sizes (acc++[v.1])+d':=hv';rw[Av8] at hv';show sizes v'.2≤sizes acc+d+d';omega
 |.st,k,a=>sz_st k a
 |.br,k,a=>(SzA.mrk fun f=>SzA.rea (SzA.ex fun c d hc=>SzA.blk fun b d' hb=>SzA.ac (SzA.ifW (SzA.call (x:=.br) 0 (fun _ _=>Nat.le_refl _) fun v d2 hv=>SzA.nod fun z hz=>by
   have hv:v.1.size≤0+d2:=hv;rw[Aj6] at hz;show z.size≤_;omega) (SzA.blk fun o d2 ho=>SzA.nod fun z hz=>by rw[Aj6] at hz;show z.size≤_;omega)) (SzA.nop fun o ho=>SzA.nod fun z hz=>by rw[Aj6] at hz;show z.size≤_;omega))) k a
 |.sk f,k,a=>by
  intro b;dsimp only;split
  ·rename_i h5;show 1≤csz (.sk f) k a;have:csz (.sk f) k a=1:=if_neg fun h=>h.2 (.inr h5)
   omega
  ·rename_i h5;intro b;dsimp only;split
   ·rename_i hk;intro b;dsimp only;split
    ·rename_i hs;have:csz (.sk f) k a=1:=if_neg fun h=>h.2 (.inl hs)
     show 1≤csz (.sk f) k a;omega
    ·exact(SzA.rd fun x=>SzA.ite (SzA.ret (by show 1≤_;omega)) (SzA.lst 1 (fun k a=>by show(if _ then 0 else 1)≤1;split<;>omega) fun v d hv=>by show 1≤_;omega)) k a
   ·rename_i hk;have:csz (.sk f) k a=1:=if_neg fun h=>hk h.1
    rw[this];exact(SzA.ifW (SzA.ret (Nat.le_refl _)) (SzA.rd fun x=>SzA.ite (SzA.ret (by show 1≤_;omega)) (SzA.lst 1 (fun k a=>by show(if _ then 0 else 1)≤1;split<;>omega) fun v d hv=>by show 1≤_;omega))) k a
 |.sp,k,a=>(SzA.ifK (SzA.ret (Nat.le_refl _)) (SzA.ifW (SzA.ret (Nat.le_refl _)) (SzA.rea (SzA.lst 0 (fun _ _=>Nat.le_refl _) fun v d hv=>Nat.zero_le _)))) k a
 |.pg acc,k,a=>by
  have go:∀(x:AT) d,x.size≤d→SzA (vsz (.pg acc)) (Pg.lst (.pg (acc++[x]))) (sizes acc+d):=fun x d hx=>SzA.lst (sizes (acc++[x])) (fun _ _=>Nat.le_refl _) fun v d' hv=>by
   have hv:sizes v.2≤sizes (acc++[x])+d':=hv;rw[Av8] at hv;show sizes v.2≤sizes acc+d+d';omega
  exact(SzA.ifK (SzA.ret (Nat.le_refl _)) (SzA.ifW (SzA.record go) (SzA.ifW (SzA.proc go) (SzA.rep (SzA.mrk fun f=>SzA.rea (SzA.call (x:=.sp) 0 (fun _ _=>Nat.le_refl _) fun v d hv=>SzA.leaf fun x hx=>by
   have:=go x (16+d) (by omega)
   rwa [←Nat.add_assoc] at this)))))) k a
theorem szN{w:Nat→Wd}:∀n x k D v k1 D1,runN w n x k D=some (v,k1,D1)→vsz x v≤csz x k (w k)+16 * (k1 - k)
 |0,_,_,_,_,_,_,h=>by cases h
 |n+1,x,k,D,v,k1,D1,h=>szP (runN_dm n) (szN n) (prog x) k D v k1 D1 _ h (sz_all x k (w k))
end Go.Abs.Z
