/- A part of the proof: AZ4 MV M0. -/
import Derived.Test.YtbkjmbhabkkoeaaGreatDoorKaq
import Derived.Test.YtbkjmbhabkkoeaaGreatDoorKan
import Derived.Test.YtbkjmbhabkkoeaaGreatDoorKap

set_option linter.unusedVariables false
set_option linter.unusedSimpArgs false
namespace Go.Abs.Y
open Go.RowKit
set_option linter.unusedVariables false
section
variable{pur:FuncId→Bool}{cX:DR}{c:Caller}
theorem Va(t:Nat)(v:Option PV)(r:Fr):(Fr.cons t v r).toF=(t,v)::r.toF:=rfl
theorem Nr:∀(f:Fr) (t:Nat),Oc f t=Dr f.toF t
 |.nil,_=>rfl
 |.cons n v r,t=>by
  rw[Va,FO];show Bool.rec (motive:=fun _=>Option PV) (Oc r t) v (Nat.beq n t)=_
  rw[Nr r t];cases Nat.beq n t<;>rfl
theorem Wx(ff:Fr):∀(az:List Co) (k:List PV→RFX),Wy ff az k=(DX ff.toF az).bind k
 |[],_=>rfl
 |a::az,k=>by
  have ih:=fun k=>Wx ff az k
  cases a with
  |slot t=>
   show Option.rec (motive:=fun _=>RFX) none (ev3 (fun k=>Wy ff az k) k) (Oc ff t)=Option.bind (Option.rec (motive:=fun _=>Option (List PV)) none (fun v=>Option.rec (motive:=fun _=>Option (List PV)) none (fun vs=>some (v::vs)) (DX ff.toF az)) (Dr ff.toF t)) k
   rw[Nr];cases Dr ff.toF t with
   |none=>rfl
   |some v=>
    show Wy ff az (fun vs=>k (v::vs))=_
    rw[ih];cases DX ff.toF az<;>rfl
  |val v=>
   show Wy ff az (fun vs=>k (v::vs))=Option.bind (Option.rec (motive:=fun _=>Option (List PV)) none (fun vs=>some (v::vs)) (DX ff.toF az)) k
   rw[ih];cases DX ff.toF az<;>rfl
theorem Y0:∀(ts:List Nat) (vs:List (Option PV)) (ff:Fr) (k:Fr→RFX),∃F,Xx ts vs ff k=k F∧F.toF=Kq ts vs ff.toF
 |[],vs,ff,k=>⟨ff,rfl,rfl⟩
 |t::ts,[],ff,k=>⟨ff,rfl,rfl⟩
 |t::ts,v::vs,ff,k=>Y0 ts vs (.cons t v ff) k
theorem Zp:∀(ts:List Nat) (ff:Fr) (k:Fr→RFX),∃F,sj ts ff k=k F∧F.toF=Kq ts (ts.map fun _=>none) ff.toF
 |[],ff,k=>⟨ff,rfl,rfl⟩
 |t::ts,ff,k=>Zp ts (.cons t none ff) k
theorem Vz:∀(a b:List Nat) (va vb:List (Option PV)) (ff:FF),a.length=va.length→Kq (a++b) (va++vb) ff=Kq b vb (Kq a va ff)
 |[],b,[],vb,ff,_=>rfl
 |t::a,b,v::va,vb,ff,h=>Vz a b va vb _ (by simpa using h)
 |[],b,v::va,vb,ff,h=>by cases h
 |t::a,b,[],vb,ff,h=>by cases h
theorem YV{ex clr:List Nat}{s s':SX}{ff ff':Fr}{rs:List (Option PV)}(he:Bool.rec (motive:=fun _=>RFX) none (Xx ex rs ff (Xr clr s)) (Nat.beq (I1 rs) (I1 ex))=some (ff',s')):
  rs.length=ex.length∧s'=s∧ff'.toF=Kq (ex++clr) (rs++clr.map fun _=>none) ff.toF:=by
 cases hb:Nat.beq (I1 rs) (I1 ex) with
 |false=>rw[hb] at he;cases he
 |true=>
  rw[hb] at he
  have hl:rs.length=ex.length:=by
   have:=AV hb
   rwa [IE,IE] at this
  have he:Xx ex rs ff (Xr clr s)=some (ff',s'):=he;obtain⟨F,h1,h2⟩:=Y0 ex rs ff (Xr clr s);rw[h1] at he;obtain⟨F2,h3,h4⟩:=Zp clr F (en s);have he:sj clr F (en s)=some (ff',s'):=he;rw[h3] at he;cases he;exact⟨hl,rfl,by rw[h4,h2,Vz _ _ _ _ _ hl.symm]⟩
theorem mJ{gd:Option (Nat×Bool)}{dst:Option Nat}{kd:AK}{args:List Co}{ex clr:List Nat}{ff ff':Fr}{s s':SX}{rs:List (Option PV)}(he:qh dst ex clr ff rs s=some (ff',s')):
  (cond (Nat.beq rs.length ((AOp.mk gd dst kd args ex clr).dst.toList.length+ex.length)) (some (Kq (AOp.mk gd dst kd args ex clr).wr (rs++clr.map fun _=>none) ff.toF,s.toL)) (cond (dst.isNone&&ex.isEmpty&&clr.isEmpty) (some (ff.toF,s.toL)) none):RFS)=some (ff'.toF,s'.toL):=by
 cases dst with
 |none=>
  have he:Bool.rec (motive:=fun _=>RFX) (Bool.rec (motive:=fun _=>RFX) none (en s ff) (and (nul ex) (nul clr))) (Xx ex rs ff (Xr clr s)) (Nat.beq (I1 rs) (I1 ex))=some (ff',s'):=he
  cases hb:Nat.beq (I1 rs) (I1 ex) with
  |true=>
   have h2:Bool.rec (motive:=fun _=>RFX) none (Xx ex rs ff (Xr clr s)) (Nat.beq (I1 rs) (I1 ex))=some (ff',s'):=by rw[hb] at he ⊢;exact he
   obtain⟨h3,rfl,h4⟩:=YV h2;have hbb:Nat.beq rs.length ((none:Option Nat).toList.length+ex.length)=true:=by rw[nW,decide_eq_true];simp[h3]
   show cond (Nat.beq rs.length ((none:Option Nat).toList.length+ex.length)) _ _=_;rw[hbb,h4];rfl
  |false=>
   rw[hb] at he
   have hbb:Nat.beq rs.length ((none:Option Nat).toList.length+ex.length)=false:=by
    rw[IE,IE] at hb;simpa using hb
   show cond (Nat.beq rs.length ((none:Option Nat).toList.length+ex.length)) _ _=_;rw[hbb];have he:Bool.rec (motive:=fun _=>RFX) none (en s ff) (and (nul ex) (nul clr))=some (ff',s'):=he
   cases ex with
   |nil=>cases clr with
    |nil=>cases he;rfl
    |cons=>cases he
   |cons=>cases he
 |some d=>
  cases rs with
  |nil=>cases he
  |cons v rs=>
   obtain⟨h3,rfl,h4⟩:=YV (ff:=.cons d v ff) (s:=s) (s':=s') he;have hbb:Nat.beq (v::rs).length ((some d:Option Nat).toList.length+ex.length)=true:=by rw[nW,decide_eq_true];simp[h3];omega
   show cond (Nat.beq (v::rs).length ((some d:Option Nat).toList.length+ex.length)) _ _=_;rw[hbb,h4];rfl
theorem Pf(h:CR cX c){gd:Option (Nat×Bool)}{dst:Option Nat}{kd:AK}{args:List Co}{ex clr:List Nat}{ff ff':Fr}{s s':SX}(he:Vr pur cX dst kd args ex clr ff s=some (ff',s')):
  IR pur c (AOp.mk gd dst kd args ex clr) ff.toF s.toL=some (ff'.toF,s'.toL):=by
 unfold Vr at he;rw[Wx] at he;unfold IR;dsimp only;cases hv:DX ff.toF args with
 |none=>rw[hv] at he;cases he
 |some vs=>
  rw[hv] at he;have he:Option.rec (motive:=fun _=>RFX) none (Prod.rec (motive:=fun _=>RFX) (qh dst ex clr ff)) (mH pur cX kd vs s)=some (ff',s'):=he
  cases hs:mH pur cX kd vs s with
  |none=>rw[hs] at he;cases he
  |some x=>
   obtain⟨rs,s1⟩:=x;rw[hs] at he;have hk:=mG h kd hs;dsimp only;rw[hk];exact mJ (gd:=gd) (kd:=kd) (args:=args) he
theorem Ww(h:CR cX c){o:AOp}{ff ff':Fr}{s s':SX}(he:Rl pur cX o ff s=some (ff',s')):F5 pur c o ff.toF s.toL=some (ff'.toF,s'.toL):=by
 obtain⟨gd,dst,kd,args,ex,clr⟩:=o;unfold F5;dsimp only;cases gd with
 |none=>exact Pf h he
 |some g=>
  have he:Option.rec (motive:=fun _=>RFX) none (fun b=>Bool.rec (motive:=fun _=>RFX) (ex3 dst ex clr ff s) (Vr pur cX dst kd args ex clr ff s) b) (EJ (Oc ff g.1) g.2)=some (ff',s'):=he
  rw[Nr] at he;dsimp only;cases hw:EJ (Dr ff.toF g.1) g.2 with
  |none=>rw[hw] at he;cases he
  |some b=>
   rw[hw] at he;cases b with
   |true=>exact Pf h he
   |false=>
    have he:ex3 dst ex clr ff s=some (ff',s'):=he;unfold ex3 at he;cases ex with
    |cons=>cases he
    |nil=>cases clr with
     |cons=>cases he
     |nil=>cases dst with
      |none=>cases he;rfl
      |some d=>cases he;rfl
theorem Y1(h:CR cX c):∀(os:List AOp) {ff ff':Fr} {s s':SX} {e:Bp},qC pur cX os ff s=some (e,ff',s')→LW pur c os ff.toF s.toL=some (e,ff'.toF,s'.toL)
 |[],ff,ff',s,s',e,he=>by cases he;rfl
 |o::os,ff,ff',s,s',e,he=>by
  have he:op1 (fun ff s=>qC pur cX os ff s) (Rl pur cX o ff s)=some (e,ff',s'):=he
  cases hx:Rl pur cX o ff s with
  |none=>rw[hx] at he;cases he
  |some x=>
   obtain⟨f1,s1⟩:=x;rw[hx] at he;show Option.rec (motive:=fun _=>RX) none (fun r=>LW pur c os r.1 r.2) (F5 pur c o ff.toF s.toL)=_
   rw[Ww h hx];exact Y1 h os he
theorem bO(h:CR cX c):∀(os:List AOp) {ff:Fr} {s:SX} {l:List (Fr×SX)},trX pur cX os ff s=some l→trK pur c os ff.toF s.toL=some (l.map fun x=>(x.1.toF,x.2.toL))
 |[],ff,s,l,he=>by cases he;rfl
 |o::os,ff,s,l,he=>by
  have he:Option.rec (motive:=fun _=>Option (List (Fr×SX))) none (fun r=>tr1 ff s (Prod.rec (motive:=fun _=>Option (List (Fr×SX))) (fun ff s=>trX pur cX os ff s) r)) (Rl pur cX o ff s)=some l:=he
  cases hx:Rl pur cX o ff s with
  |none=>rw[hx] at he;cases he
  |some x=>
   obtain⟨f1,s1⟩:=x;rw[hx] at he;have he:tr1 ff s (trX pur cX os f1 s1)=some l:=he;cases ht:trX pur cX os f1 s1 with
   |none=>rw[ht] at he;cases he
   |some l1=>
    rw[ht] at he;cases he;show Option.rec (motive:=fun _=>Option (List (FF×Sto))) none (fun r=>Option.rec (motive:=fun _=>Option (List (FF×Sto))) none (fun l=>some ((ff.toF,s.toL)::l)) (trK pur c os r.1 r.2)) (F5 pur c o ff.toF s.toL)=_
    rw[Ww h hx];dsimp only;rw[bO h os ht];rfl
theorem jD(h:CR cX c){ops:List AOp}{lo:List (Nat×Nat)}{ff ff':Fr}{s s':SX}{e:Bp}(he:jE pur cX ops lo ff s=some (e,ff',s')):WP pur c ops lo ff.toF s.toL=some (e,ff'.toF,s'.toL):=by
 unfold jE at he;unfold WP;cases ht:trX pur cX ops ff s with
 |none=>rw[ht] at he;cases he
 |some tr=>
  rw[ht] at he;rw[bO h ops ht];have he:Bool.rec (motive:=fun _=>RXX) none (jf tr.getLast?) (XL ops tr lo)=some (e,ff',s'):=he
  unfold XL at he;dsimp only;cases hl:Uw ops (tr.map fun x=>(x.1.toF,x.2.toL)) lo with
  |false=>rw[hl] at he;cases he
  |true=>
   rw[hl] at he;have he:jf tr.getLast?=some (e,ff',s'):=he;rw[List.getLast?_map]
   cases hg:tr.getLast? with
   |none=>rw[hg] at he;cases he
   |some x=>
    obtain⟨f1,s1⟩:=x;rw[hg] at he;cases he;rfl
theorem Ni{α:Type}(ff:Fr):∀(keep:List Bool) (n:Nat) (k:Fr→α),∃F,QE ff keep n k=k F∧F.toF=DL ff.toF keep n
 |[],n,k=>⟨.nil,rfl,rfl⟩
 |b::keep,n,k=>by
  cases b with
  |false=>
   show ∃F,Fw (fun m=>QE ff keep m k) (Nat.succ n)=k F∧F.toF=DL ff.toF keep (n+1)
   rw[DY];exact Ni ff keep (n+1) k
  |true=>
   show ∃F,ma2 (fun m k=>QE ff keep m k) k n (Oc ff n)=k F∧F.toF=(n,Dr ff.toF n)::DL ff.toF keep (n+1)
   obtain⟨F,h1,h2⟩:=Ni ff keep (n+1) (fun r=>k (.cons n (Oc ff n) r))
   refine⟨.cons n (Oc ff n) F,?_,by rw[Va,h2,Nr]⟩
   rw[←h1];cases Oc ff n with
   |none=>exact DY _ (Nat.succ n)
   |some v=>exact DY _ (Nat.succ n)
theorem V7{keep:List Bool}{bX:Fr→SX→RXX}{bK:FF→Sto→RX}(hb:∀ff s e ff' s',bX ff s=some (e,ff',s')→bK ff.toF s.toL=some (e,ff'.toF,s'.toL)):∀(n:Nat) {ff ff':Fr} {s s':SX} {e:Bp},QP keep bX n ff s=some (e,ff',s')→Ma keep bK n ff.toF s.toL=some (e,ff'.toF,s'.toL)
 |0,ff,ff',s,s',e,he=>by cases he
 |n+1,ff,ff',s,s',e,he=>by
  have he:it3 (it1 keep (fun ff s=>QP keep bX n ff s)) (bX ff s)=some (e,ff',s'):=he
  show Option.rec (motive:=fun _=>RX) none (fun r=>cond (E9 r.1) (Ma keep bK n (DL r.2.1 keep 0) r.2.2) (some r)) (bK ff.toF s.toL)=_
  cases hx:bX ff s with
  |none=>rw[hx] at he;cases he
  |some x=>
   obtain⟨e1,f1,s1⟩:=x;rw[hx] at he;rw[hb _ _ _ _ _ hx];cases e1 with
   |normal=>
    have he:QE f1 keep 0 (fun ff=>QP keep bX n ff s1)=some (e,ff',s'):=he
    obtain⟨F,h1,h2⟩:=Ni f1 keep 0 (fun ff=>QP keep bX n ff s1)
    rw[h1] at he;show Ma keep bK n (DL f1.toF keep 0) s1.toL=_;rw[←h2];exact V7 hb n he
   |exit i=>cases he;rfl
   |ret=>cases he;rfl
theorem jP(h:CR cX c){n:Nat}:∀(ac:Dh) {ff ff':Fr} {s s':SX} {e:Bp},JQ pur cX n ac ff s=some (e,ff',s')→EI pur c n ac ff.toF s.toL=some (e,ff'.toF,s'.toL):=by
 intro ac
 induction ac with
 |skip=>intro ff ff' s s' e he;cases he;rfl
 |region ops=>intro ff ff' s s' e he;exact Y1 h ops he
 |draw ops lo=>intro ff ff' s s' e he;exact jD h he
 |seq a b iha ihb=>
  intro ff ff' s s' e he;have he:it3 (se1 (fun ff s=>JQ pur cX n b ff s)) (JQ pur cX n a ff s)=some (e,ff',s'):=he
  show Option.rec (motive:=fun _=>RX) none (fun r=>cond (E9 r.1) (EI pur c n b r.2.1 r.2.2) (some r)) (EI pur c n a ff.toF s.toL)=_
  cases hx:JQ pur cX n a ff s with
  |none=>rw[hx] at he;cases he
  |some x=>
   obtain⟨e1,f1,s1⟩:=x;rw[hx] at he;rw[iha hx];cases e1 with
   |normal=>exact ihb he
   |exit i=>cases he;rfl
   |ret=>cases he;rfl
 |cond a x y ihx ihy=>
  intro ff ff' s s' e he;have he:pz (nY ff a) (JQ pur cX n x ff s) (JQ pur cX n y ff s)=some (e,ff',s'):=he;show WR (DX ff.toF [a]) (EI pur c n x ff.toF s.toL) (EI pur c n y ff.toF s.toL)=_
  have hev:DX ff.toF [a]=(nY ff a).map fun v=>[v]:=by
   cases a with
   |slot t=>
    show Option.rec (motive:=fun _=>Option (List PV)) none (fun v=>some [v]) (Dr ff.toF t)=(Oc ff t).map fun v=>[v]
    rw[Nr];cases Dr ff.toF t<;>rfl
   |val v=>rfl
  rw[hev];cases hv:nY ff a with
  |none=>rw[hv] at he;cases he
  |some v=>
   rw[hv] at he;cases v with
   |bool b=>cases b with
    |true=>exact ihx he
    |false=>exact ihy he
   |_=>cases he
 |block id a ih=>
  intro ff ff' s s' e he;have he:it3 (bl2 id) (JQ pur cX n a ff s)=some (e,ff',s'):=he;show Option.rec (motive:=fun _=>RX) none (fun r=>Bp.rec (motive:=fun _=>RX) (some r) (fun i=>cond (Nat.beq i id) (some (.normal,r.2)) (some r)) (some r) r.1) (EI pur c n a ff.toF s.toL)=_
  cases hx:JQ pur cX n a ff s with
  |none=>rw[hx] at he;cases he
  |some x=>
   obtain⟨e1,f1,s1⟩:=x;rw[hx] at he;rw[ih hx];cases e1 with
   |normal=>cases he;rfl
   |exit i=>
    have he:Bool.rec (motive:=fun _=>RXX) (some (.exit i,f1,s1)) (some (.normal,f1,s1)) (Nat.beq i id)=some (e,ff',s'):=he
    show cond (Nat.beq i id) _ _=_;cases hb:Nat.beq i id with
    |true=>rw[hb] at he;cases he;rfl
    |false=>rw[hb] at he;cases he;rfl
   |ret=>cases he;rfl
 |loop keep a ih=>
  intro ff ff' s s' e he;have he:QE ff keep 0 (fun ff=>QP keep (fun ff s=>JQ pur cX n a ff s) n ff s)=some (e,ff',s'):=he
  obtain⟨F,h1,h2⟩:=Ni ff keep 0 (fun ff=>QP keep (fun ff s=>JQ pur cX n a ff s) n ff s)
  rw[h1] at he;show Ma keep (fun ff σ=>EI pur c n a ff σ) n (DL ff.toF keep 0) s.toL=_
  rw[←h2];exact V7 (fun ff s e ff' s' hb=>ih hb) n he
 |exit id=>intro ff ff' s s' e he;cases he;rfl
 |ret=>intro ff ff' s s' e he;cases he;rfl
theorem Wj:∀(args:List PV) (n:Nat),(Wl args n).toF=I5 args n
 |[],_=>rfl
 |a::args,n=>by
  show(n,some a)::(Wl args (Nat.succ n)).toF=_;rw[Wj args (n+1)];rfl
theorem Zn{fn:CQ}{ff:Fr}{s s':SX}{r:PV}(he:nR fn ff s=some (r,s')):s'=s∧((Gm ff.toF fn.results).bind fun vs=>(Fg vs).map fun x=>(x,s.toL))=some (r,s'.toL):=by
 unfold nR at he;cases hr:Gm ff.toF fn.results with
 |none=>rw[hr] at he;cases he
 |some vs=>
  rw[hr] at he;have he:Option.rec (motive:=fun _=>RV) none (Gn (fi3 s)) (Fg vs)=some (r,s'):=he
  cases hp:Fg vs with
  |none=>rw[hp] at he;cases he
  |some x=>
   rw[hp] at he;have he:Gn (fi3 s) x=some (r,s'):=he;rw[FP] at he;cases he;exact⟨rfl,by rw[Dn,hp];rfl⟩
theorem ZO(h:CR cX c){n:Nat}{args:List PV}{s s':SX}{fn:CQ}{r:PV}(he:TZ pur cX n args s fn=some (r,s')):Ij pur c n fn args s.toL=some (r,s'.toL):=by
 unfold TZ at he;unfold Ij;rw[IE] at he;have hc:(Nat.beq args.length fn.nargs&&Nat.ble args.length fn.ntmps)=and (Nat.beq args.length fn.nargs) (Nat.ble args.length fn.ntmps):=rfl;rw[hc];cases hb:and (Nat.beq args.length fn.nargs) (Nat.ble args.length fn.ntmps) with
 |false=>rw[hb] at he;cases he
 |true=>
  rw[hb] at he;have he:rf3 fn (JQ pur cX n fn.code (Wl args 0) s)=some (r,s'):=he;cases hx:JQ pur cX n fn.code (Wl args 0) s with
  |none=>rw[hx] at he;cases he
  |some x=>
   obtain⟨e1,f1,s1⟩:=x;rw[hx] at he;have hk:=jP h fn.code hx;rw[Wj] at hk;rw[hk];cases e1 with
   |normal=>
    obtain⟨rfl,h2⟩:=Zn (fn:=fn) (ff:=f1) (s:=s1) he;exact h2
   |exit i=>cases he
   |ret=>
    obtain⟨rfl,h2⟩:=Zn (fn:=fn) (ff:=f1) (s:=s1) he;exact h2
def PR(gX:Lg)(g:HV):Prop:=∀cX c,CR cX c→∀args s r s',gX cX args s=some (r,s')→g c args s.toL=some (r,s'.toL)
theorem WT{primX:FuncId→Option Lg}{prim:FuncId→Option HV}{tab:FuncId→Option CQ}(hp:∀f,(primX f=none∧prim f=none)∨∃gX g,primX f=some gX∧prim f=some g∧PR gX g):∀n,CR (Zq pur primX tab n) (Mf pur prim tab n)
 |0=>by intro f vs s r s' he;cases he
 |n+1=>by
  intro f vs s r s' he;have ih:=WT (tab:=tab) hp n;have he:Option.rec (motive:=fun _=>RV) (Option.rec (motive:=fun _=>RV) none (TZ pur (Zq pur primX tab n) n vs s) (tab f)) (cx1 (Zq pur primX tab n) vs s) (primX f)=some (r,s'):=he
  show Option.rec (motive:=fun _=>Option (PV×Sto)) (Option.rec (motive:=fun _=>Option (PV×Sto)) none (fun fn=>Ij pur (Mf pur prim tab n) n fn vs s.toL) (tab f)) (fun g=>g (Mf pur prim tab n) vs s.toL) (prim f)=_
  rcases hp f with⟨h1,h2⟩ | ⟨gX,g,h1,h2,h3⟩
  ·rw[h1] at he;rw[h2];cases ht:tab f with
   |none=>rw[ht] at he;cases he
   |some fn=>
    rw[ht] at he;exact ZO ih he
  ·rw[h1] at he;rw[h2];exact h3 _ _ ih _ _ _ _ he
end
end Go.Abs.Y

namespace Go.Abs.Z
def mK:PV:=.slice false 5 [.agg [.int .i64 5,.str [102],.int .i64 0,.int .i64 67,.slice false 5 [.agg [.int .i64 6,.str [],.int .i64 6,.int .i64 18,.slice false 5 [.agg [.int .i64 8,.str [120],.int .i64 7,.int .i64 17,.slice false 5 [.agg [.int .i64 9,.str [105,110,116],.int .i64 14,.int .i64 17,.nils]]]]],.agg [.int .i64 0,.str [],.int .i64 18,.int .i64 18,.nils],.agg [.int .i64 11,.str [],.int .i64 19,.int .i64 67,.slice false 5 [.agg [.int .i64 12,.str [121],.int .i64 21,.int .i64 31,.slice false 5 [.agg [.int .i64 0,.str [],.int .i64 26,.int .i64 26,.nils],.agg [.int .i64 20,.str [120],.int .i64 29,.int .i64 30,.nils]]],.agg [.int .i64 15,.str [],.int .i64 32,.int .i64 58,.slice false 5 [.agg [.int .i64 29,.str [60],.int .i64 38,.int .i64 43,.slice false 5 [.agg [.int .i64 20,.str [121],.int .i64 38,.int .i64 39,.nils],.agg [.int .i64 24,.str [51],.int .i64 42,.int .i64 43,.nils]]],.agg [.int .i64 11,.str [],.int .i64 44,.int .i64 58,.slice false 5 [.agg [.int .i64 13,.str [],.int .i64 46,.int .i64 56,.slice false 5 [.agg [.int .i64 20,.str [121],.int .i64 46,.int .i64 47,.nils],.agg [.int .i64 29,.str [43],.int .i64 50,.int .i64 55,.slice false 5 [.agg [.int .i64 20,.str [121],.int .i64 50,.int .i64 51,.nils],.agg [.int .i64 20,.str [120],.int .i64 54,.int .i64 55,.nils]]]]]]]]],.agg [.int .i64 13,.str [],.int .i64 59,.int .i64 65,.slice false 5 [.agg [.int .i64 20,.str [120],.int .i64 59,.int .i64 60,.nils],.agg [.int .i64 24,.str [49],.int .i64 63,.int .i64 64,.nils]]]]]]]]
def mP:PV:=.agg [.int .i64 2,.str [],.int .i64 0,.int .i64 67,mK,.slice false 3 [.agg [.int .i64 0,.int .i64 0,.str []],.agg [.int .i64 0,.int .i64 0,.str []],.agg [.int .i64 0,.int .i64 0,.str []],.agg [.int .i64 0,.int .i64 0,.str []],.agg [.int .i64 0,.int .i64 0,.str []],.agg [.int .i64 0,.int .i64 0,.str []],.agg [.int .i64 0,.int .i64 0,.str []],.agg [.int .i64 0,.int .i64 0,.str []],.agg [.int .i64 0,.int .i64 0,.str []],.agg [.int .i64 1,.int .i64 0,.str []],.agg [.int .i64 0,.int .i64 0,.str []],.agg [.int .i64 2,.int .i64 0,.str []],.agg [.int .i64 1,.int .i64 0,.str []],.agg [.int .i64 1,.int .i64 0,.str []],.agg [.int .i64 0,.int .i64 0,.str []],.agg [.int .i64 0,.int .i64 0,.str []],.agg [.int .i64 1,.int .i64 0,.str []],.agg [.int .i64 1,.int .i64 0,.str []],.agg [.int .i64 1,.int .i64 0,.str []],.agg [.int .i64 1,.int .i64 0,.str []],.agg [.int .i64 0,.int .i64 0,.str []],.agg [.int .i64 1,.int .i64 0,.str []],.agg [.int .i64 1,.int .i64 0,.str []]],.slice false 1 [.int .i64 (-1),.int .i64 (-1),.int .i64 (-1),.int .i64 0,.int .i64 (-1),.int .i64 (-1),.int .i64 (-1),.int .i64 1,.int .i64 (-1),.int .i64 0,.int .i64 (-1),.int .i64 (-1),.int .i64 1,.int .i64 (-1),.int .i64 (-1),.int .i64 (-1),.int .i64 1,.int .i64 (-1),.int .i64 1,.int .i64 0,.int .i64 (-1),.int .i64 0,.int .i64 (-1)],.nils,.slice false 9 [.agg [.str [102],.int .i64 1,.int .i64 1,.int .i64 0,.int .i64 0,.str [],.slice false 8 [.agg [.str [120],.int .i64 1,.int .i64 0,.str [],.int .i64 0,.int .i64 3,.bool true,.bool false],.agg [.str [121],.int .i64 1,.int .i64 0,.str [],.int .i64 1,.int .i64 7,.bool false,.bool false]],.int .i64 2,.nils]]]
def Mw:List PV:=[.str [112,114,111,99,32,102,40,118,97,114,32,120,58,32,105,110,116,41,32,123,32,118,97,114,32,121,32,61,32,120,59,32,119,104,105,108,101,32,121,32,60,32,51,32,123,32,121,32,61,32,121,32,43,32,120,59,32,125,32,120,32,61,32,49,59,32,125]]
def Ms:PV:=.tuple [.agg [.int .i64 2,.str [],.int .i64 0,.int .i64 67,mK],.nils,.int .i64 0]
def J6:List PV:=[.agg [.int .i64 2,.str [],.int .i64 0,.int .i64 67,mK]]
def J5:PV:=.bool true
def Mv:List PV:=[mP,.int .i64 0]
def Mr:PV:=.tuple [.agg [.slice false 3 [.agg [.int .i64 0,.int .i64 (-1),.slice false 1 [.int .i64 2]],.agg [.int .i64 1,.int .i64 (-1),.nils],.agg [.int .i64 2,.int .i64 7,.slice false 1 [.int .i64 3]],.agg [.int .i64 4,.int .i64 10,.slice false 1 [.int .i64 4,.int .i64 5]],.agg [.int .i64 2,.int .i64 15,.slice false 1 [.int .i64 3]],.agg [.int .i64 2,.int .i64 20,.slice false 1 [.int .i64 1]]]],.int .i64 0]
def Mt:List PV:=[.int .i64 23,.slice false 8 [.agg [.int .i64 0,.int .i64 3,.int .i64 0,.int .i64 1,.int .i64 0,.str [],.int .i64 14,.int .i64 17],.agg [.int .i64 1,.int .i64 7,.int .i64 9,.int .i64 0,.int .i64 0,.str [],.int .i64 21,.int .i64 31],.agg [.int .i64 1,.int .i64 9,.int .i64 3,.int .i64 0,.int .i64 0,.str [],.int .i64 29,.int .i64 30],.agg [.int .i64 0,.int .i64 11,.int .i64 0,.int .i64 2,.int .i64 0,.str [],.int .i64 38,.int .i64 43],.agg [.int .i64 0,.int .i64 12,.int .i64 0,.int .i64 1,.int .i64 0,.str [],.int .i64 38,.int .i64 39],.agg [.int .i64 0,.int .i64 13,.int .i64 0,.int .i64 1,.int .i64 0,.str [],.int .i64 42,.int .i64 43],.agg [.int .i64 0,.int .i64 11,.int .i64 0,.int .i64 2,.int .i64 0,.str [],.int .i64 38,.int .i64 43],.agg [.int .i64 1,.int .i64 12,.int .i64 7,.int .i64 0,.int .i64 0,.str [],.int .i64 38,.int .i64 39],.agg [.int .i64 0,.int .i64 13,.int .i64 0,.int .i64 1,.int .i64 0,.str [],.int .i64 42,.int .i64 43],.agg [.int .i64 1,.int .i64 16,.int .i64 17,.int .i64 0,.int .i64 0,.str [],.int .i64 46,.int .i64 56],.agg [.int .i64 1,.int .i64 16,.int .i64 7,.int .i64 0,.int .i64 0,.str [],.int .i64 46,.int .i64 47],.agg [.int .i64 0,.int .i64 18,.int .i64 0,.int .i64 1,.int .i64 0,.str [],.int .i64 50,.int .i64 51],.agg [.int .i64 0,.int .i64 19,.int .i64 0,.int .i64 1,.int .i64 0,.str [],.int .i64 54,.int .i64 55],.agg [.int .i64 0,.int .i64 17,.int .i64 0,.int .i64 1,.int .i64 0,.str [],.int .i64 50,.int .i64 55],.agg [.int .i64 1,.int .i64 18,.int .i64 7,.int .i64 0,.int .i64 0,.str [],.int .i64 50,.int .i64 51],.agg [.int .i64 1,.int .i64 19,.int .i64 3,.int .i64 0,.int .i64 0,.str [],.int .i64 54,.int .i64 55],.agg [.int .i64 1,.int .i64 21,.int .i64 22,.int .i64 0,.int .i64 0,.str [],.int .i64 59,.int .i64 65],.agg [.int .i64 1,.int .i64 21,.int .i64 3,.int .i64 0,.int .i64 0,.str [],.int .i64 59,.int .i64 60],.agg [.int .i64 0,.int .i64 22,.int .i64 0,.int .i64 1,.int .i64 0,.str [],.int .i64 63,.int .i64 64]]]
def Mq:PV:=.tuple [.slice false 3 [.agg [.int .i64 0,.int .i64 0,.str []],.agg [.int .i64 0,.int .i64 0,.str []],.agg [.int .i64 0,.int .i64 0,.str []],.agg [.int .i64 1,.int .i64 0,.str []],.agg [.int .i64 0,.int .i64 0,.str []],.agg [.int .i64 0,.int .i64 0,.str []],.agg [.int .i64 0,.int .i64 0,.str []],.agg [.int .i64 1,.int .i64 0,.str []],.agg [.int .i64 0,.int .i64 0,.str []],.agg [.int .i64 1,.int .i64 0,.str []],.agg [.int .i64 0,.int .i64 0,.str []],.agg [.int .i64 2,.int .i64 0,.str []],.agg [.int .i64 1,.int .i64 0,.str []],.agg [.int .i64 1,.int .i64 0,.str []],.agg [.int .i64 0,.int .i64 0,.str []],.agg [.int .i64 0,.int .i64 0,.str []],.agg [.int .i64 1,.int .i64 0,.str []],.agg [.int .i64 1,.int .i64 0,.str []],.agg [.int .i64 1,.int .i64 0,.str []],.agg [.int .i64 1,.int .i64 0,.str []],.agg [.int .i64 0,.int .i64 0,.str []],.agg [.int .i64 1,.int .i64 0,.str []],.agg [.int .i64 1,.int .i64 0,.str []]],.nils,.int .i64 0]
def N8:List PV:=[.agg [.int .i64 2,.str [],.int .i64 0,.int .i64 67,mK]]
def N7:PV:=.tuple [.agg [.slice false 4 [.agg [.int .i64 2,.str [102],.int .i64 1,.int .i64 (-1)],.agg [.int .i64 3,.str [120],.int .i64 3,.int .i64 1],.agg [.int .i64 4,.str [121],.int .i64 7,.int .i64 1]],.slice false 1 [.int .i64 (-1),.int .i64 0,.int .i64 (-1),.int .i64 1,.int .i64 (-1),.int .i64 (-1),.int .i64 (-1),.int .i64 2,.int .i64 (-1),.int .i64 1,.int .i64 (-1),.int .i64 (-1),.int .i64 2,.int .i64 (-1),.int .i64 (-1),.int .i64 (-1),.int .i64 2,.int .i64 (-1),.int .i64 2,.int .i64 1,.int .i64 (-1),.int .i64 1,.int .i64 (-1)]],.nils,.int .i64 0]
def QK:List PV:=[.agg [.int .i64 2,.str [],.int .i64 0,.int .i64 67,mK]]
def QJ:PV:=.tuple [.slice false 8 [.agg [.int .i64 0,.int .i64 3,.int .i64 0,.int .i64 1,.int .i64 0,.str [],.int .i64 14,.int .i64 17],.agg [.int .i64 1,.int .i64 7,.int .i64 9,.int .i64 0,.int .i64 0,.str [],.int .i64 21,.int .i64 31],.agg [.int .i64 1,.int .i64 9,.int .i64 3,.int .i64 0,.int .i64 0,.str [],.int .i64 29,.int .i64 30],.agg [.int .i64 0,.int .i64 11,.int .i64 0,.int .i64 2,.int .i64 0,.str [],.int .i64 38,.int .i64 43],.agg [.int .i64 0,.int .i64 12,.int .i64 0,.int .i64 1,.int .i64 0,.str [],.int .i64 38,.int .i64 39],.agg [.int .i64 0,.int .i64 13,.int .i64 0,.int .i64 1,.int .i64 0,.str [],.int .i64 42,.int .i64 43],.agg [.int .i64 0,.int .i64 11,.int .i64 0,.int .i64 2,.int .i64 0,.str [],.int .i64 38,.int .i64 43],.agg [.int .i64 1,.int .i64 12,.int .i64 7,.int .i64 0,.int .i64 0,.str [],.int .i64 38,.int .i64 39],.agg [.int .i64 0,.int .i64 13,.int .i64 0,.int .i64 1,.int .i64 0,.str [],.int .i64 42,.int .i64 43],.agg [.int .i64 1,.int .i64 16,.int .i64 17,.int .i64 0,.int .i64 0,.str [],.int .i64 46,.int .i64 56],.agg [.int .i64 1,.int .i64 16,.int .i64 7,.int .i64 0,.int .i64 0,.str [],.int .i64 46,.int .i64 47],.agg [.int .i64 0,.int .i64 18,.int .i64 0,.int .i64 1,.int .i64 0,.str [],.int .i64 50,.int .i64 51],.agg [.int .i64 0,.int .i64 19,.int .i64 0,.int .i64 1,.int .i64 0,.str [],.int .i64 54,.int .i64 55],.agg [.int .i64 0,.int .i64 17,.int .i64 0,.int .i64 1,.int .i64 0,.str [],.int .i64 50,.int .i64 55],.agg [.int .i64 1,.int .i64 18,.int .i64 7,.int .i64 0,.int .i64 0,.str [],.int .i64 50,.int .i64 51],.agg [.int .i64 1,.int .i64 19,.int .i64 3,.int .i64 0,.int .i64 0,.str [],.int .i64 54,.int .i64 55],.agg [.int .i64 1,.int .i64 21,.int .i64 22,.int .i64 0,.int .i64 0,.str [],.int .i64 59,.int .i64 65],.agg [.int .i64 1,.int .i64 21,.int .i64 3,.int .i64 0,.int .i64 0,.str [],.int .i64 59,.int .i64 60],.agg [.int .i64 0,.int .i64 22,.int .i64 0,.int .i64 1,.int .i64 0,.str [],.int .i64 63,.int .i64 64]],.int .i64 0]
def Uq:List PV:=[.str [112,114,111,99,32,102,40,118,97,114,32,120,58,32,105,110,116,41,32,123,32,118,97,114,32,121,32,61,32,120,59,32,119,104,105,108,101,32,121,32,60,32,51,32,123,32,121,32,61,32,121,32,43,32,120,59,32,125,32,120,32,61,32,49,59,32,125]]
def Uk:PV:=.tuple [mP,.nils,.int .i64 0]
def Ur:List PV:=[mP,.int .i64 0]
def Ul:PV:=.tuple [.slice false 3 [.agg [.nils,.slice false 1 [.int .i64 0],.bool true],.agg [.slice false 1 [.int .i64 0],.nils,.bool false],.agg [.slice false 1 [.int .i64 0],.slice false 1 [.int .i64 1],.bool true],.agg [.slice false 1 [.int .i64 1],.nils,.bool false],.agg [.slice false 1 [.int .i64 0,.int .i64 1],.slice false 1 [.int .i64 1],.bool true],.agg [.nils,.slice false 1 [.int .i64 0],.bool true]],.int .i64 0]
def Ut:List PV:=[mP,.int .i64 0]
def Un:PV:=.tuple [.slice false 1 [.nils,.slice false 1 [.int .i64 1,.int .i64 2,.int .i64 3],.slice false 1 [.int .i64 0],.slice false 1 [.int .i64 0,.int .i64 1,.int .i64 2],.slice false 1 [.int .i64 0,.int .i64 1,.int .i64 2],.slice false 1 [.int .i64 0,.int .i64 1,.int .i64 2]],.int .i64 0]
def Us:List PV:=[mP,.int .i64 0]
def Um:PV:=.tuple [.slice false 1 [.nils,.slice false 1 [.int .i64 0],.slice false 1 [.int .i64 0],.slice false 1 [.int .i64 0,.int .i64 1],.slice false 1 [.int .i64 0,.int .i64 1],.nils],.int .i64 0]
def XK:List PV:=[mP,.int .i64 0]
def XJ:PV:=.tuple [.slice false 2 [.agg [.int .i64 0,.int .i64 0],.agg [.int .i64 2,.int .i64 1],.agg [.int .i64 4,.int .i64 1],.agg [.int .i64 5,.int .i64 0]],.int .i64 0]
end Go.Abs.Z

namespace Go.Abs.Z
noncomputable section
open Go.Proofs Go.RowKit Go.Abs.Y
set_option linter.unusedVariables false
mutual
def eqV:Nat→PV→PV→Bool
 |0,_,_=>false
 |n+1,a,b=>match a,b with
  |.int k i,.int k' i'=>decide (k=k')&&decide (i=i')
  |.bool x,.bool y=>decide (x=y)
  |.str s,.str s'=>decide (s=s')
  |.nils,.nils=>true
  |.agg l,.agg l'=>Sg n l l'
  |.tuple l,.tuple l'=>Sg n l l'
  |.slice o z l,.slice o' z' l'=>decide (o=o')&&(decide (z=z')&&Sg n l l')
  |_,_=>false
def Sg:Nat→List PV→List PV→Bool
 |0,_,_=>false
 |n+1,a,b=>match a,b with
  |[],[]=>true
  |x::xs,y::ys=>eqV n x y&&Sg n xs ys
  |_,_=>false
end
theorem Yc:∀n,(∀a b,eqV n a b=true→a=b)∧∀a b,Sg n a b=true→a=b:=by
 intro n
 induction n with
 |zero=>exact⟨fun a b h=>by simp[eqV] at h,fun a b h=>by simp[Sg] at h⟩
 |succ n ih=>
  refine⟨fun a b h=>?_,fun a b h=>?_⟩
  ·unfold eqV at h
   split at h
   ·simp only[Ak,decide_eq_true_eq] at h;rw[h.1,h.2]
   ·rw[of_decide_eq_true h]
   ·rw[of_decide_eq_true h]
   ·rfl
   ·rw[ih.2 _ _ h]
   ·rw[ih.2 _ _ h]
   ·simp only[Ak,decide_eq_true_eq] at h;rw[h.1,h.2.1,ih.2 _ _ h.2.2]
   ·cases h
  ·unfold Sg at h
   split at h
   ·rfl
   ·rw[Ak] at h;rw[ih.1 _ _ h.1,ih.2 _ _ h.2]
   ·cases h
def isD(R:PV):Option (PV×Sto)→Bool
 |some (r0,σ0)=>match Zo 100 σ0 r0 with
  |some r=>eqV 1000 R r
  |none=>false
 |none=>false
def Oa(R:PV)(x:Option (PV×SX)):Bool:=isD R (x.map fun p=>(p.1,p.2.toL))
def Fz(f:FuncId)(A:List PV)(R:PV):Prop:=∀σ,Jc Tryz.prog f A σ R σ
def XE(A:List PV):Bool:=A.all PV.flat&&Sg 1000 (A.map PV.Ag) A
theorem known{call:Caller}(hS:EX Tryz.prog call){f:FuncId}{A:List PV}{R:PV}(ha:XE A=true)(h:isD R (call f A [])=true):Fz f A R:=by
 intro σ;unfold XE at ha;rw[Ak] at ha
 have hown:∀p∈A,p.Ag=p:=by
  intro p hp;have h2:=(Yc 1000).2 _ _ ha.2;obtain⟨i,hi⟩:=Bj.1 hp;have h3:=congrArg (·[i]?) h2;simp only[Af,hi,AB] at h3;exact Option.some.inj h3
 unfold isD at h
 split at h
 ·rename_i r0 σ0 hc
  split at h
  ·rename_i r hr;rw[(Yc 1000).1 _ _ h];exact Jc.iso (hS f A [] r0 σ0 hown hc) ha.1 hr σ
  ·cases h
 ·cases h
def memo(l:List (List PV×PV)):HV:=fun _ args σ=>(l.find? fun e=>Sg 1000 e.1 args).map fun e=>(e.2,σ)
theorem Y4{f:FuncId}{l:List (List PV×PV)}(h:∀e∈l,Fz f e.1 e.2):Gp Tryz.prog f (memo l):=by
 intro call hS args σ r σ' hown hr;obtain⟨e,he,h2⟩:=Ac.1 hr;cases h2;have h3:=List.find?_some he
 rw[←(Yc 1000).2 _ _ h3];exact h e (List.mem_of_find?_eq_some he) _
def oZ(l:List (List PV×PV)):Lg:=fun _ args s=>(l.find? fun e=>Sg 1000 e.1 args).map fun e=>(e.2,s)
theorem gW(l:List (List PV×PV)):PR (oZ l) (memo l):=by
 intro cX c _ args s r s' h;obtain⟨e,he,h2⟩:=Ac.1 h;cases h2;simp only[memo,he];rfl
def SL(g:HV):Lg:=fun _ args s=>(g (fun _ _ _=>none) args s.toL).map fun r=>(r.1,SX.ofL r.2)
theorem KY{g:HV}(hg:∀c args σ,g (fun _ _ _=>none) args σ=g c args σ):PR (SL g) g:=by
 intro cX c _ args s r s' h;obtain⟨x,hx,e⟩:=Ac.1 h;cases e;rw[←hg,hx,TJ]
abbrev Trp:=FuncId×Lg×HV
structure JU(x:Trp):Prop where
 pr:PR x.2.1 x.2.2
 ok:Gp Tryz.prog x.1 x.2.2
def tm(f:FuncId)(l:List (List PV×PV)):Trp:=(f,oZ l,memo l)
theorem Er{f:FuncId}{l:List (List PV×PV)}(h:∀e∈l,Fz f e.1 e.2):JU (tm f l):=⟨gW l,Y4 h⟩
def lfP(lf:LFn):HV:=fun _ args σ=>Sw pur itr 1000 lf (mM 150) args σ
def base:List Trp:=[(49,SL Qu,Qu),(145,SL (lfP Zd),lfP Zd),(122,SL (lfP Ze),lfP Ze),(15,SL OE,OE),(219,SL fK,fK)]
theorem nX:∀x∈base,JU x:=by
 intro x hx;simp only[base,Ay,AC,or_false] at hx;rcases hx with rfl | rfl | rfl | rfl | rfl
 ·exact⟨KY fun _ _ _=>rfl,Zc⟩
 ·exact⟨KY fun _ _ _=>rfl,fun call _ args σ r σ' hown h=>(LM UD mixed Tryz.func145 (by kernel_rfl) jF) (mM 150) (Qf 150) args σ r σ' hown h⟩
 ·exact⟨KY fun _ _ _=>rfl,fun call _ args σ r σ' hown h=>(LM UD mixed Tryz.func122 (by kernel_rfl) jG) (mM 150) (Qf 150) args σ r σ' hown h⟩
 ·exact⟨KY fun _ _ _=>rfl,TP⟩
 ·exact⟨KY fun _ _ _=>rfl,jZ⟩
def Gi(l:List Trp)(f:FuncId):Option Lg:=List.rec (motive:=fun _=>Option Lg) none (fun p _ ih=>Bool.rec (motive:=fun _=>Option Lg) ih (some p.2.1) (Nat.beq p.1 f)) l
def VQ(l:List Trp)(f:FuncId):Option HV:=List.rec (motive:=fun _=>Option HV) none (fun p _ ih=>Bool.rec (motive:=fun _=>Option HV) ih (some p.2.2) (Nat.beq p.1 f)) l
theorem look_ok:∀(l:List Trp),(∀x∈l,JU x)→∀f,(Gi l f=none∧VQ l f=none)∨∃gX g,Gi l f=some gX∧VQ l f=some g∧PR gX g∧Gp Tryz.prog f g
 |[],_,f=>.inl ⟨rfl,rfl⟩
 |p::l,hl,f=>by
  have ih:=look_ok l (fun x hx=>hl x (BB _ hx)) f
  have e1:Gi (p::l) f=Bool.rec (motive:=fun _=>Option Lg) (Gi l f) (some p.2.1) (Nat.beq p.1 f):=rfl
  have e2:VQ (p::l) f=Bool.rec (motive:=fun _=>Option HV) (VQ l f) (some p.2.2) (Nat.beq p.1 f):=rfl
  rw[e1,e2];cases hb:Nat.beq p.1 f with
  |true=>
   have hf:p.1=f:=AV hb;have:=hl p (BA ..);exact .inr ⟨_,_,rfl,rfl,this.pr,hf▸this.ok⟩
  |false=>exact ih
def ug(l:List Trp)(n:Nat):Caller:=Mf pur (VQ (l++base)) tab n
def Gl(l:List Trp)(n:Nat):DR:=Zq pur (Gi (l++base)) tab n
theorem both{l:List Trp}(h:∀x∈l,JU x):∀x∈l++base,JU x:=fun x hx=>(List.mem_append.1 hx).elim (h x) (nX x)
theorem Xo{l:List Trp}(h:∀x∈l,JU x)(n:Nat):EX Tryz.prog (ug l n):=by
 refine Ie mixed Yz (fun f g hg=>?_) n
 rcases look_ok _ (both h) f with⟨_,h2⟩ | ⟨gX,g',_,h2,_,h3⟩
 ·rw[h2] at hg;cases hg
 ·rw[h2] at hg;cases hg;exact h3
theorem Pf{l:List Trp}(h:∀x∈l,JU x)(n:Nat):CR (Gl l n) (ug l n):=by
 refine WT (fun f=>?_) n
 rcases look_ok _ (both h) f with h1 | ⟨gX,g,h1,h2,h3,_⟩
 ·exact .inl h1
 ·exact .inr ⟨gX,g,h1,h2,h3⟩
theorem I4{l:List Trp}(hl:∀x∈l,JU x){f:FuncId}{A:List PV}{R:PV}(ha:XE A=true)(h:Oa R (Gl l 200 f A SX.nil)=true):Fz f A R:=by
 refine known (Xo hl 200) ha ?_
 unfold Oa at h;cases hx:Gl l 200 f A SX.nil with
 |none=>rw[hx] at h;cases h
 |some x=>
  obtain⟨r,s⟩:=x;rw[hx] at h;have:=Pf hl 200 _ _ _ _ _ hx;rw[TK] at this;rw[this];exact h
end
end Go.Abs.Z
