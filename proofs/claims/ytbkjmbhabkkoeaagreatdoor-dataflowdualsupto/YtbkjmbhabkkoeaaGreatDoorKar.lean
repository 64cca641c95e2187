/- A part of the proof: AZ4 MV M0. -/
import Derived.Test.YtbkjmbhabkkoeaaGreatDoorKaq
import Derived.Test.YtbkjmbhabkkoeaaGreatDoorKan
import Derived.Test.YtbkjmbhabkkoeaaGreatDoorKap

set_option linter.unusedVariables false
set_option linter.unusedSimpArgs false
namespace Go.Abs.Y
open Go.RowKit
set_option linter.unusedVariables false
section
variable{pur:FuncId→Bool}{cX:DN}{c:Caller}
theorem VV(t:Nat)(v:Option PV)(r:Fr):(Fr.cons t v r).toF=(t,v)::r.toF:=rfl
theorem NV:∀(f:Fr) (t:Nat),OT f t=Dm f.toF t
 |.nil,_=>rfl
 |.cons n v r,t=>by
  rw[VV,FV];show Bool.rec (motive:=fun _=>Option PV) (OT r t) v (Nat.beq n t)=_
  rw[NV r t];cases Nat.beq n t<;>rfl
theorem XO(ff:Fr):∀(az:List Ct) (k:List PV→RFX),XP ff az k=(DT ff.toF az).bind k
 |[],_=>rfl
 |a::az,k=>by
  have ih:=fun k=>XO ff az k
  cases a with
  |slot t=>
   show Option.rec (motive:=fun _=>RFX) none (ev3 (fun k=>XP ff az k) k) (OT ff t)=Option.bind (Option.rec (motive:=fun _=>Option (List PV)) none (fun v=>Option.rec (motive:=fun _=>Option (List PV)) none (fun vs=>some (v::vs)) (DT ff.toF az)) (Dm ff.toF t)) k
   rw[NV];cases Dm ff.toF t with
   |none=>rfl
   |some v=>
    show XP ff az (fun vs=>k (v::vs))=_
    rw[ih];cases DT ff.toF az<;>rfl
  |val v=>
   show XP ff az (fun vs=>k (v::vs))=Option.bind (Option.rec (motive:=fun _=>Option (List PV)) none (fun vs=>some (v::vs)) (DT ff.toF az)) k
   rw[ih];cases DT ff.toF az<;>rfl
theorem ZT:∀(ts:List Nat) (vs:List (Option PV)) (ff:Fr) (k:Fr→RFX),∃F,Yy ts vs ff k=k F∧F.toF=K6 ts vs ff.toF
 |[],vs,ff,k=>⟨ff,rfl,rfl⟩
 |t::ts,[],ff,k=>⟨ff,rfl,rfl⟩
 |t::ts,v::vs,ff,k=>ZT ts vs (.cons t v ff) k
theorem aH:∀(ts:List Nat) (ff:Fr) (k:Fr→RFX),∃F,vE ts ff k=k F∧F.toF=K6 ts (ts.map fun _=>none) ff.toF
 |[],ff,k=>⟨ff,rfl,rfl⟩
 |t::ts,ff,k=>aH ts (.cons t none ff) k
theorem Wy:∀(a b:List Nat) (va vb:List (Option PV)) (ff:FF),a.length=va.length→K6 (a++b) (va++vb) ff=K6 b vb (K6 a va ff)
 |[],b,[],vb,ff,_=>rfl
 |t::a,b,v::va,vb,ff,h=>Wy a b va vb _ (by simpa using h)
 |[],b,v::va,vb,ff,h=>by cases h
 |t::a,b,[],vb,ff,h=>by cases h
theorem ZN{ex clr:List Nat}{s s':SX}{ff ff':Fr}{rs:List (Option PV)}(he:Bool.rec (motive:=fun _=>RFX) none (Yy ex rs ff (Yq clr s)) (Nat.beq (Jg rs) (Jg ex))=some (ff',s')):
  rs.length=ex.length∧s'=s∧ff'.toF=K6 (ex++clr) (rs++clr.map fun _=>none) ff.toF:=by
 cases hb:Nat.beq (Jg rs) (Jg ex) with
 |false=>rw[hb] at he;cases he
 |true=>
  rw[hb] at he
  have hl:rs.length=ex.length:=by
   have:=AU hb
   rwa [IX,IX] at this
  have he:Yy ex rs ff (Yq clr s)=some (ff',s'):=he;obtain⟨F,h1,h2⟩:=ZT ex rs ff (Yq clr s);rw[h1] at he;obtain⟨F2,h3,h4⟩:=aH clr F (en s);have he:vE clr F (en s)=some (ff',s'):=he;rw[h3] at he;cases he;exact⟨hl,rfl,by rw[h4,h2,Wy _ _ _ _ _ hl.symm]⟩
theorem o8{gd:Option (Nat×Bool)}{dst:Option Nat}{kd:AK}{args:List Ct}{ex clr:List Nat}{ff ff':Fr}{s s':SX}{rs:List (Option PV)}(he:tN dst ex clr ff rs s=some (ff',s')):
  (cond (Nat.beq rs.length ((AOp.mk gd dst kd args ex clr).dst.toList.length+ex.length)) (some (K6 (AOp.mk gd dst kd args ex clr).wr (rs++clr.map fun _=>none) ff.toF,s.toL)) (cond (dst.isNone&&ex.isEmpty&&clr.isEmpty) (some (ff.toF,s.toL)) none):RFS)=some (ff'.toF,s'.toL):=by
 cases dst with
 |none=>
  have he:Bool.rec (motive:=fun _=>RFX) (Bool.rec (motive:=fun _=>RFX) none (en s ff) (and (nul ex) (nul clr))) (Yy ex rs ff (Yq clr s)) (Nat.beq (Jg rs) (Jg ex))=some (ff',s'):=he
  cases hb:Nat.beq (Jg rs) (Jg ex) with
  |true=>
   have h2:Bool.rec (motive:=fun _=>RFX) none (Yy ex rs ff (Yq clr s)) (Nat.beq (Jg rs) (Jg ex))=some (ff',s'):=by rw[hb] at he ⊢;exact he
   obtain⟨h3,rfl,h4⟩:=ZN h2;have hbb:Nat.beq rs.length ((none:Option Nat).toList.length+ex.length)=true:=by rw[qB,decide_eq_true];simp[h3]
   show cond (Nat.beq rs.length ((none:Option Nat).toList.length+ex.length)) _ _=_;rw[hbb,h4];rfl
  |false=>
   rw[hb] at he
   have hbb:Nat.beq rs.length ((none:Option Nat).toList.length+ex.length)=false:=by
    rw[IX,IX] at hb;simpa using hb
   show cond (Nat.beq rs.length ((none:Option Nat).toList.length+ex.length)) _ _=_;rw[hbb];have he:Bool.rec (motive:=fun _=>RFX) none (en s ff) (and (nul ex) (nul clr))=some (ff',s'):=he
   cases ex with
   |nil=>cases clr with
    |nil=>cases he;rfl
    |cons=>cases he
   |cons=>cases he
 |some d=>
  cases rs with
  |nil=>cases he
  |cons v rs=>
   obtain⟨h3,rfl,h4⟩:=ZN (ff:=.cons d v ff) (s:=s) (s':=s') he;have hbb:Nat.beq (v::rs).length ((some d:Option Nat).toList.length+ex.length)=true:=by rw[qB,decide_eq_true];simp[h3];omega
   show cond (Nat.beq (v::rs).length ((some d:Option Nat).toList.length+ex.length)) _ _=_;rw[hbb,h4];rfl
theorem Qf(h:CR cX c){gd:Option (Nat×Bool)}{dst:Option Nat}{kd:AK}{args:List Ct}{ex clr:List Nat}{ff ff':Fr}{s s':SX}(he:Wo pur cX dst kd args ex clr ff s=some (ff',s')):
  Ja pur c (AOp.mk gd dst kd args ex clr) ff.toF s.toL=some (ff'.toF,s'.toL):=by
 unfold Wo at he;rw[XO] at he;unfold Ja;dsimp only;cases hv:DT ff.toF args with
 |none=>rw[hv] at he;cases he
 |some vs=>
  rw[hv] at he;have he:Option.rec (motive:=fun _=>RFX) none (Prod.rec (motive:=fun _=>RFX) (tN dst ex clr ff)) (o5 pur cX kd vs s)=some (ff',s'):=he
  cases hs:o5 pur cX kd vs s with
  |none=>rw[hs] at he;cases he
  |some x=>
   obtain⟨rs,s1⟩:=x;rw[hs] at he;have hk:=oZ h kd hs;dsimp only;rw[hk];exact o8 (gd:=gd) (kd:=kd) (args:=args) he
theorem XN(h:CR cX c){o:AOp}{ff ff':Fr}{s s':SX}(he:Sk pur cX o ff s=some (ff',s')):F5 pur c o ff.toF s.toL=some (ff'.toF,s'.toL):=by
 obtain⟨gd,dst,kd,args,ex,clr⟩:=o;unfold F5;dsimp only;cases gd with
 |none=>exact Qf h he
 |some g=>
  have he:Option.rec (motive:=fun _=>RFX) none (fun b=>Bool.rec (motive:=fun _=>RFX) (ex3 dst ex clr ff s) (Wo pur cX dst kd args ex clr ff s) b) (Ex (OT ff g.1) g.2)=some (ff',s'):=he
  rw[NV] at he;dsimp only;cases hw:Ex (Dm ff.toF g.1) g.2 with
  |none=>rw[hw] at he;cases he
  |some b=>
   rw[hw] at he;cases b with
   |true=>exact Qf h he
   |false=>
    have he:ex3 dst ex clr ff s=some (ff',s'):=he;unfold ex3 at he;cases ex with
    |cons=>cases he
    |nil=>cases clr with
     |cons=>cases he
     |nil=>cases dst with
      |none=>cases he;rfl
      |some d=>cases he;rfl
theorem ZV(h:CR cX c):∀(os:List AOp) {ff ff':Fr} {s s':SX} {e:Bt},ul pur cX os ff s=some (e,ff',s')→MI pur c os ff.toF s.toL=some (e,ff'.toF,s'.toL)
 |[],ff,ff',s,s',e,he=>by cases he;rfl
 |o::os,ff,ff',s,s',e,he=>by
  have he:op1 (fun ff s=>ul pur cX os ff s) (Sk pur cX o ff s)=some (e,ff',s'):=he
  cases hx:Sk pur cX o ff s with
  |none=>rw[hx] at he;cases he
  |some x=>
   obtain⟨f1,s1⟩:=x;rw[hx] at he;show Option.rec (motive:=fun _=>RX) none (fun r=>MI pur c os r.1 r.2) (F5 pur c o ff.toF s.toL)=_
   rw[XN h hx];exact ZV h os he
theorem eT(h:CR cX c):∀(os:List AOp) {ff:Fr} {s:SX} {l:List (Fr×SX)},trX pur cX os ff s=some l→trK pur c os ff.toF s.toL=some (l.map fun x=>(x.1.toF,x.2.toL))
 |[],ff,s,l,he=>by cases he;rfl
 |o::os,ff,s,l,he=>by
  have he:Option.rec (motive:=fun _=>Option (List (Fr×SX))) none (fun r=>tr1 ff s (Prod.rec (motive:=fun _=>Option (List (Fr×SX))) (fun ff s=>trX pur cX os ff s) r)) (Sk pur cX o ff s)=some l:=he
  cases hx:Sk pur cX o ff s with
  |none=>rw[hx] at he;cases he
  |some x=>
   obtain⟨f1,s1⟩:=x;rw[hx] at he;have he:tr1 ff s (trX pur cX os f1 s1)=some l:=he;cases ht:trX pur cX os f1 s1 with
   |none=>rw[ht] at he;cases he
   |some l1=>
    rw[ht] at he;cases he;show Option.rec (motive:=fun _=>Option (List (FF×Sto))) none (fun r=>Option.rec (motive:=fun _=>Option (List (FF×Sto))) none (fun l=>some ((ff.toF,s.toL)::l)) (trK pur c os r.1 r.2)) (F5 pur c o ff.toF s.toL)=_
    rw[XN h hx];dsimp only;rw[eT h os ht];rfl
theorem lU(h:CR cX c){ops:List AOp}{lo:List (Nat×Nat)}{ff ff':Fr}{s s':SX}{e:Bt}(he:lV pur cX ops lo ff s=some (e,ff',s')):Sv pur c ops lo ff.toF s.toL=some (e,ff'.toF,s'.toL):=by
 unfold lV at he;unfold Sv;cases ht:trX pur cX ops ff s with
 |none=>rw[ht] at he;cases he
 |some tr=>
  rw[ht] at he;rw[eT h ops ht];have he:Bool.rec (motive:=fun _=>RXX) none (kU tr.getLast?) (YM ops tr lo)=some (e,ff',s'):=he
  unfold YM at he;dsimp only;cases hl:Rm ops (tr.map fun x=>(x.1.toF,x.2.toL)) lo with
  |false=>rw[hl] at he;cases he
  |true=>
   rw[hl] at he;have he:kU tr.getLast?=some (e,ff',s'):=he;rw[List.getLast?_map]
   cases hg:tr.getLast? with
   |none=>rw[hg] at he;cases he
   |some x=>
    obtain⟨f1,s1⟩:=x;rw[hg] at he;cases he;rfl
theorem NQ{α:Type}(ff:Fr):∀(keep:List Bool) (n:Nat) (k:Fr→α),∃F,Re ff keep n k=k F∧F.toF=DD ff.toF keep n
 |[],n,k=>⟨.nil,rfl,rfl⟩
 |b::keep,n,k=>by
  cases b with
  |false=>
   show ∃F,FD (fun m=>Re ff keep m k) (Nat.succ n)=k F∧F.toF=DD ff.toF keep (n+1)
   rw[D6];exact NQ ff keep (n+1) k
  |true=>
   show ∃F,ma2 (fun m k=>Re ff keep m k) k n (OT ff n)=k F∧F.toF=(n,Dm ff.toF n)::DD ff.toF keep (n+1)
   obtain⟨F,h1,h2⟩:=NQ ff keep (n+1) (fun r=>k (.cons n (OT ff n) r))
   refine⟨.cons n (OT ff n) F,?_,by rw[VV,h2,NV]⟩
   rw[←h1];cases OT ff n with
   |none=>exact D6 _ (Nat.succ n)
   |some v=>exact D6 _ (Nat.succ n)
theorem Xu{keep:List Bool}{bX:Fr→SX→RXX}{bK:FF→Sto→RX}(hb:∀ff s e ff' s',bX ff s=some (e,ff',s')→bK ff.toF s.toL=some (e,ff'.toF,s'.toL)):∀(n:Nat) {ff ff':Fr} {s s':SX} {e:Bt},Rx keep bX n ff s=some (e,ff',s')→MQ keep bK n ff.toF s.toL=some (e,ff'.toF,s'.toL)
 |0,ff,ff',s,s',e,he=>by cases he
 |n+1,ff,ff',s,s',e,he=>by
  have he:it3 (it1 keep (fun ff s=>Rx keep bX n ff s)) (bX ff s)=some (e,ff',s'):=he
  show Option.rec (motive:=fun _=>RX) none (fun r=>cond (Fg r.1) (MQ keep bK n (DD r.2.1 keep 0) r.2.2) (some r)) (bK ff.toF s.toL)=_
  cases hx:bX ff s with
  |none=>rw[hx] at he;cases he
  |some x=>
   obtain⟨e1,f1,s1⟩:=x;rw[hx] at he;rw[hb _ _ _ _ _ hx];cases e1 with
   |normal=>
    have he:Re f1 keep 0 (fun ff=>Rx keep bX n ff s1)=some (e,ff',s'):=he
    obtain⟨F,h1,h2⟩:=NQ f1 keep 0 (fun ff=>Rx keep bX n ff s1)
    rw[h1] at he;show MQ keep bK n (DD f1.toF keep 0) s1.toL=_;rw[←h2];exact Xu hb n he
   |exit i=>cases he;rfl
   |ret=>cases he;rfl
theorem mg(h:CR cX c){n:Nat}:∀(ac:Dc) {ff ff':Fr} {s s':SX} {e:Bt},J9 pur cX n ac ff s=some (e,ff',s')→EI pur c n ac ff.toF s.toL=some (e,ff'.toF,s'.toL):=by
 intro ac
 induction ac with
 |skip=>intro ff ff' s s' e he;cases he;rfl
 |region ops=>intro ff ff' s s' e he;exact ZV h ops he
 |draw ops lo=>intro ff ff' s s' e he;exact lU h he
 |seq a b iha ihb=>
  intro ff ff' s s' e he;have he:it3 (se1 (fun ff s=>J9 pur cX n b ff s)) (J9 pur cX n a ff s)=some (e,ff',s'):=he
  show Option.rec (motive:=fun _=>RX) none (fun r=>cond (Fg r.1) (EI pur c n b r.2.1 r.2.2) (some r)) (EI pur c n a ff.toF s.toL)=_
  cases hx:J9 pur cX n a ff s with
  |none=>rw[hx] at he;cases he
  |some x=>
   obtain⟨e1,f1,s1⟩:=x;rw[hx] at he;rw[iha hx];cases e1 with
   |normal=>exact ihb he
   |exit i=>cases he;rfl
   |ret=>cases he;rfl
 |cond a x y ihx ihy=>
  intro ff ff' s s' e he;have he:rX (qD ff a) (J9 pur cX n x ff s) (J9 pur cX n y ff s)=some (e,ff',s'):=he;show XW (DT ff.toF [a]) (EI pur c n x ff.toF s.toL) (EI pur c n y ff.toF s.toL)=_
  have hev:DT ff.toF [a]=(qD ff a).map fun v=>[v]:=by
   cases a with
   |slot t=>
    show Option.rec (motive:=fun _=>Option (List PV)) none (fun v=>some [v]) (Dm ff.toF t)=(OT ff t).map fun v=>[v]
    rw[NV];cases Dm ff.toF t<;>rfl
   |val v=>rfl
  rw[hev];cases hv:qD ff a with
  |none=>rw[hv] at he;cases he
  |some v=>
   rw[hv] at he;cases v with
   |bool b=>cases b with
    |true=>exact ihx he
    |false=>exact ihy he
   |_=>cases he
 |block id a ih=>
  intro ff ff' s s' e he;have he:it3 (bl2 id) (J9 pur cX n a ff s)=some (e,ff',s'):=he;show Option.rec (motive:=fun _=>RX) none (fun r=>Bt.rec (motive:=fun _=>RX) (some r) (fun i=>cond (Nat.beq i id) (some (.normal,r.2)) (some r)) (some r) r.1) (EI pur c n a ff.toF s.toL)=_
  cases hx:J9 pur cX n a ff s with
  |none=>rw[hx] at he;cases he
  |some x=>
   obtain⟨e1,f1,s1⟩:=x;rw[hx] at he;rw[ih hx];cases e1 with
   |normal=>cases he;rfl
   |exit i=>
    have he:Bool.rec (motive:=fun _=>RXX) (some (.exit i,f1,s1)) (some (.normal,f1,s1)) (Nat.beq i id)=some (e,ff',s'):=he
    show cond (Nat.beq i id) _ _=_;cases hb:Nat.beq i id with
    |true=>rw[hb] at he;cases he;rfl
    |false=>rw[hb] at he;cases he;rfl
   |ret=>cases he;rfl
 |loop keep a ih=>
  intro ff ff' s s' e he;have he:Re ff keep 0 (fun ff=>Rx keep (fun ff s=>J9 pur cX n a ff s) n ff s)=some (e,ff',s'):=he
  obtain⟨F,h1,h2⟩:=NQ ff keep 0 (fun ff=>Rx keep (fun ff s=>J9 pur cX n a ff s) n ff s)
  rw[h1] at he;show MQ keep (fun ff σ=>EI pur c n a ff σ) n (DD ff.toF keep 0) s.toL=_
  rw[←h2];exact Xu (fun ff s e ff' s' hb=>ih hb) n he
 |exit id=>intro ff ff' s s' e he;cases he;rfl
 |ret=>intro ff ff' s s' e he;cases he;rfl
theorem XD:∀(args:List PV) (n:Nat),(XE args n).toF=Ji args n
 |[],_=>rfl
 |a::args,n=>by
  show(n,some a)::(XE args (Nat.succ n)).toF=_;rw[XD args (n+1)];rfl
theorem aG{fn:Cy}{ff:Fr}{s s':SX}{r:PV}(he:qp fn ff s=some (r,s')):s'=s∧((Gt ff.toF fn.results).bind fun vs=>(Fu vs).map fun x=>(x,s.toL))=some (r,s'.toL):=by
 unfold qp at he;cases hr:Gt ff.toF fn.results with
 |none=>rw[hr] at he;cases he
 |some vs=>
  rw[hr] at he;have he:Option.rec (motive:=fun _=>RV) none (Gu (fi3 s)) (Fu vs)=some (r,s'):=he
  cases hp:Fu vs with
  |none=>rw[hp] at he;cases he
  |some x=>
   rw[hp] at he;have he:Gu (fi3 s) x=some (r,s'):=he;rw[FX] at he;cases he;exact⟨rfl,by rw[Dn,hp];rfl⟩
theorem bq(h:CR cX c){n:Nat}{args:List PV}{s s':SX}{fn:Cy}{r:PV}(he:UQ pur cX n args s fn=some (r,s')):GD pur c n fn args s.toL=some (r,s'.toL):=by
 unfold UQ at he;unfold GD;rw[IX] at he;have hc:(Nat.beq args.length fn.nargs&&Nat.ble args.length fn.ntmps)=and (Nat.beq args.length fn.nargs) (Nat.ble args.length fn.ntmps):=rfl;rw[hc];cases hb:and (Nat.beq args.length fn.nargs) (Nat.ble args.length fn.ntmps) with
 |false=>rw[hb] at he;cases he
 |true=>
  rw[hb] at he;have he:rf3 fn (J9 pur cX n fn.code (XE args 0) s)=some (r,s'):=he;cases hx:J9 pur cX n fn.code (XE args 0) s with
  |none=>rw[hx] at he;cases he
  |some x=>
   obtain⟨e1,f1,s1⟩:=x;rw[hx] at he;have hk:=mg h fn.code hx;rw[XD] at hk;rw[hk];cases e1 with
   |normal=>
    obtain⟨rfl,h2⟩:=aG (fn:=fn) (ff:=f1) (s:=s1) he;exact h2
   |exit i=>cases he
   |ret=>
    obtain⟨rfl,h2⟩:=aG (fn:=fn) (ff:=f1) (s:=s1) he;exact h2
def PR(gX:LZ)(g:GM):Prop:=∀cX c,CR cX c→∀args s r s',gX cX args s=some (r,s')→g c args s.toL=some (r,s'.toL)
theorem XY{primX:FuncId→Option LZ}{prim:FuncId→Option GM}{tab:FuncId→Option Cy}(hp:∀f,(primX f=none∧prim f=none)∨∃gX g,primX f=some gX∧prim f=some g∧PR gX g):∀n,CR (aI pur primX tab n) (LW pur prim tab n)
 |0=>by intro f vs s r s' he;cases he
 |n+1=>by
  intro f vs s r s' he;have ih:=XY (tab:=tab) hp n;have he:Option.rec (motive:=fun _=>RV) (Option.rec (motive:=fun _=>RV) none (UQ pur (aI pur primX tab n) n vs s) (tab f)) (cx1 (aI pur primX tab n) vs s) (primX f)=some (r,s'):=he
  show Option.rec (motive:=fun _=>Option (PV×Sto)) (Option.rec (motive:=fun _=>Option (PV×Sto)) none (fun fn=>GD pur (LW pur prim tab n) n fn vs s.toL) (tab f)) (fun g=>g (LW pur prim tab n) vs s.toL) (prim f)=_
  rcases hp f with⟨h1,h2⟩ | ⟨gX,g,h1,h2,h3⟩
  ·rw[h1] at he;rw[h2];cases ht:tab f with
   |none=>rw[ht] at he;cases he
   |some fn=>
    rw[ht] at he;exact bq ih he
  ·rw[h1] at he;rw[h2];exact h3 _ _ ih _ _ _ _ he
end
end Go.Abs.Y

namespace Go.Abs.Z
def mK:PV:=.slice false 5 [.agg [.int .i64 5,.str [102],.int .i64 0,.int .i64 67,.slice false 5 [.agg [.int .i64 6,.str [],.int .i64 6,.int .i64 18,.slice false 5 [.agg [.int .i64 8,.str [120],.int .i64 7,.int .i64 17,.slice false 5 [.agg [.int .i64 9,.str [105,110,116],.int .i64 14,.int .i64 17,.nils]]]]],.agg [.int .i64 0,.str [],.int .i64 18,.int .i64 18,.nils],.agg [.int .i64 11,.str [],.int .i64 19,.int .i64 67,.slice false 5 [.agg [.int .i64 12,.str [121],.int .i64 21,.int .i64 31,.slice false 5 [.agg [.int .i64 0,.str [],.int .i64 26,.int .i64 26,.nils],.agg [.int .i64 20,.str [120],.int .i64 29,.int .i64 30,.nils]]],.agg [.int .i64 15,.str [],.int .i64 32,.int .i64 58,.slice false 5 [.agg [.int .i64 29,.str [60],.int .i64 38,.int .i64 43,.slice false 5 [.agg [.int .i64 20,.str [121],.int .i64 38,.int .i64 39,.nils],.agg [.int .i64 24,.str [51],.int .i64 42,.int .i64 43,.nils]]],.agg [.int .i64 11,.str [],.int .i64 44,.int .i64 58,.slice false 5 [.agg [.int .i64 13,.str [],.int .i64 46,.int .i64 56,.slice false 5 [.agg [.int .i64 20,.str [121],.int .i64 46,.int .i64 47,.nils],.agg [.int .i64 29,.str [43],.int .i64 50,.int .i64 55,.slice false 5 [.agg [.int .i64 20,.str [121],.int .i64 50,.int .i64 51,.nils],.agg [.int .i64 20,.str [120],.int .i64 54,.int .i64 55,.nils]]]]]]]]],.agg [.int .i64 13,.str [],.int .i64 59,.int .i64 65,.slice false 5 [.agg [.int .i64 20,.str [120],.int .i64 59,.int .i64 60,.nils],.agg [.int .i64 24,.str [49],.int .i64 63,.int .i64 64,.nils]]]]]]]]
def mP:PV:=.agg [.int .i64 2,.str [],.int .i64 0,.int .i64 67,mK,.slice false 3 [.agg [.int .i64 0,.int .i64 0,.str []],.agg [.int .i64 0,.int .i64 0,.str []],.agg [.int .i64 0,.int .i64 0,.str []],.agg [.int .i64 0,.int .i64 0,.str []],.agg [.int .i64 0,.int .i64 0,.str []],.agg [.int .i64 0,.int .i64 0,.str []],.agg [.int .i64 0,.int .i64 0,.str []],.agg [.int .i64 0,.int .i64 0,.str []],.agg [.int .i64 0,.int .i64 0,.str []],.agg [.int .i64 1,.int .i64 0,.str []],.agg [.int .i64 0,.int .i64 0,.str []],.agg [.int .i64 2,.int .i64 0,.str []],.agg [.int .i64 1,.int .i64 0,.str []],.agg [.int .i64 1,.int .i64 0,.str []],.agg [.int .i64 0,.int .i64 0,.str []],.agg [.int .i64 0,.int .i64 0,.str []],.agg [.int .i64 1,.int .i64 0,.str []],.agg [.int .i64 1,.int .i64 0,.str []],.agg [.int .i64 1,.int .i64 0,.str []],.agg [.int .i64 1,.int .i64 0,.str []],.agg [.int .i64 0,.int .i64 0,.str []],.agg [.int .i64 1,.int .i64 0,.str []],.agg [.int .i64 1,.int .i64 0,.str []]],.slice false 1 [.int .i64 (-1),.int .i64 (-1),.int .i64 (-1),.int .i64 0,.int .i64 (-1),.int .i64 (-1),.int .i64 (-1),.int .i64 1,.int .i64 (-1),.int .i64 0,.int .i64 (-1),.int .i64 (-1),.int .i64 1,.int .i64 (-1),.int .i64 (-1),.int .i64 (-1),.int .i64 1,.int .i64 (-1),.int .i64 1,.int .i64 0,.int .i64 (-1),.int .i64 0,.int .i64 (-1)],.nils,.slice false 9 [.agg [.str [102],.int .i64 1,.int .i64 1,.int .i64 0,.int .i64 0,.str [],.slice false 8 [.agg [.str [120],.int .i64 1,.int .i64 0,.str [],.int .i64 0,.int .i64 3,.bool true,.bool false],.agg [.str [121],.int .i64 1,.int .i64 0,.str [],.int .i64 1,.int .i64 7,.bool false,.bool false]],.int .i64 2,.nils]]]
def Nb:List PV:=[.str [112,114,111,99,32,102,40,118,97,114,32,120,58,32,105,110,116,41,32,123,32,118,97,114,32,121,32,61,32,120,59,32,119,104,105,108,101,32,121,32,60,32,51,32,123,32,121,32,61,32,121,32,43,32,120,59,32,125,32,120,32,61,32,49,59,32,125]]
def M8:PV:=.tuple [.agg [.int .i64 2,.str [],.int .i64 0,.int .i64 67,mK],.nils,.int .i64 0]
def Kq:List PV:=[.agg [.int .i64 2,.str [],.int .i64 0,.int .i64 67,mK]]
def Ko:PV:=.bool true
def Na:List PV:=[mP,.int .i64 0]
def M7:PV:=.tuple [.agg [.slice false 3 [.agg [.int .i64 0,.int .i64 (-1),.slice false 1 [.int .i64 2]],.agg [.int .i64 1,.int .i64 (-1),.nils],.agg [.int .i64 2,.int .i64 7,.slice false 1 [.int .i64 3]],.agg [.int .i64 4,.int .i64 10,.slice false 1 [.int .i64 4,.int .i64 5]],.agg [.int .i64 2,.int .i64 15,.slice false 1 [.int .i64 3]],.agg [.int .i64 2,.int .i64 20,.slice false 1 [.int .i64 1]]]],.int .i64 0]
def M9:List PV:=[.int .i64 23,.slice false 8 [.agg [.int .i64 0,.int .i64 3,.int .i64 0,.int .i64 1,.int .i64 0,.str [],.int .i64 14,.int .i64 17],.agg [.int .i64 1,.int .i64 7,.int .i64 9,.int .i64 0,.int .i64 0,.str [],.int .i64 21,.int .i64 31],.agg [.int .i64 1,.int .i64 9,.int .i64 3,.int .i64 0,.int .i64 0,.str [],.int .i64 29,.int .i64 30],.agg [.int .i64 0,.int .i64 11,.int .i64 0,.int .i64 2,.int .i64 0,.str [],.int .i64 38,.int .i64 43],.agg [.int .i64 0,.int .i64 12,.int .i64 0,.int .i64 1,.int .i64 0,.str [],.int .i64 38,.int .i64 39],.agg [.int .i64 0,.int .i64 13,.int .i64 0,.int .i64 1,.int .i64 0,.str [],.int .i64 42,.int .i64 43],.agg [.int .i64 0,.int .i64 11,.int .i64 0,.int .i64 2,.int .i64 0,.str [],.int .i64 38,.int .i64 43],.agg [.int .i64 1,.int .i64 12,.int .i64 7,.int .i64 0,.int .i64 0,.str [],.int .i64 38,.int .i64 39],.agg [.int .i64 0,.int .i64 13,.int .i64 0,.int .i64 1,.int .i64 0,.str [],.int .i64 42,.int .i64 43],.agg [.int .i64 1,.int .i64 16,.int .i64 17,.int .i64 0,.int .i64 0,.str [],.int .i64 46,.int .i64 56],.agg [.int .i64 1,.int .i64 16,.int .i64 7,.int .i64 0,.int .i64 0,.str [],.int .i64 46,.int .i64 47],.agg [.int .i64 0,.int .i64 18,.int .i64 0,.int .i64 1,.int .i64 0,.str [],.int .i64 50,.int .i64 51],.agg [.int .i64 0,.int .i64 19,.int .i64 0,.int .i64 1,.int .i64 0,.str [],.int .i64 54,.int .i64 55],.agg [.int .i64 0,.int .i64 17,.int .i64 0,.int .i64 1,.int .i64 0,.str [],.int .i64 50,.int .i64 55],.agg [.int .i64 1,.int .i64 18,.int .i64 7,.int .i64 0,.int .i64 0,.str [],.int .i64 50,.int .i64 51],.agg [.int .i64 1,.int .i64 19,.int .i64 3,.int .i64 0,.int .i64 0,.str [],.int .i64 54,.int .i64 55],.agg [.int .i64 1,.int .i64 21,.int .i64 22,.int .i64 0,.int .i64 0,.str [],.int .i64 59,.int .i64 65],.agg [.int .i64 1,.int .i64 21,.int .i64 3,.int .i64 0,.int .i64 0,.str [],.int .i64 59,.int .i64 60],.agg [.int .i64 0,.int .i64 22,.int .i64 0,.int .i64 1,.int .i64 0,.str [],.int .i64 63,.int .i64 64]]]
def M6:PV:=.tuple [.slice false 3 [.agg [.int .i64 0,.int .i64 0,.str []],.agg [.int .i64 0,.int .i64 0,.str []],.agg [.int .i64 0,.int .i64 0,.str []],.agg [.int .i64 1,.int .i64 0,.str []],.agg [.int .i64 0,.int .i64 0,.str []],.agg [.int .i64 0,.int .i64 0,.str []],.agg [.int .i64 0,.int .i64 0,.str []],.agg [.int .i64 1,.int .i64 0,.str []],.agg [.int .i64 0,.int .i64 0,.str []],.agg [.int .i64 1,.int .i64 0,.str []],.agg [.int .i64 0,.int .i64 0,.str []],.agg [.int .i64 2,.int .i64 0,.str []],.agg [.int .i64 1,.int .i64 0,.str []],.agg [.int .i64 1,.int .i64 0,.str []],.agg [.int .i64 0,.int .i64 0,.str []],.agg [.int .i64 0,.int .i64 0,.str []],.agg [.int .i64 1,.int .i64 0,.str []],.agg [.int .i64 1,.int .i64 0,.str []],.agg [.int .i64 1,.int .i64 0,.str []],.agg [.int .i64 1,.int .i64 0,.str []],.agg [.int .i64 0,.int .i64 0,.str []],.agg [.int .i64 1,.int .i64 0,.str []],.agg [.int .i64 1,.int .i64 0,.str []]],.nils,.int .i64 0]
def OJ:List PV:=[.agg [.int .i64 2,.str [],.int .i64 0,.int .i64 67,mK]]
def OI:PV:=.tuple [.agg [.slice false 4 [.agg [.int .i64 2,.str [102],.int .i64 1,.int .i64 (-1)],.agg [.int .i64 3,.str [120],.int .i64 3,.int .i64 1],.agg [.int .i64 4,.str [121],.int .i64 7,.int .i64 1]],.slice false 1 [.int .i64 (-1),.int .i64 0,.int .i64 (-1),.int .i64 1,.int .i64 (-1),.int .i64 (-1),.int .i64 (-1),.int .i64 2,.int .i64 (-1),.int .i64 1,.int .i64 (-1),.int .i64 (-1),.int .i64 2,.int .i64 (-1),.int .i64 (-1),.int .i64 (-1),.int .i64 2,.int .i64 (-1),.int .i64 2,.int .i64 1,.int .i64 (-1),.int .i64 1,.int .i64 (-1)]],.nils,.int .i64 0]
def Rl:List PV:=[.agg [.int .i64 2,.str [],.int .i64 0,.int .i64 67,mK]]
def Rk:PV:=.tuple [.slice false 8 [.agg [.int .i64 0,.int .i64 3,.int .i64 0,.int .i64 1,.int .i64 0,.str [],.int .i64 14,.int .i64 17],.agg [.int .i64 1,.int .i64 7,.int .i64 9,.int .i64 0,.int .i64 0,.str [],.int .i64 21,.int .i64 31],.agg [.int .i64 1,.int .i64 9,.int .i64 3,.int .i64 0,.int .i64 0,.str [],.int .i64 29,.int .i64 30],.agg [.int .i64 0,.int .i64 11,.int .i64 0,.int .i64 2,.int .i64 0,.str [],.int .i64 38,.int .i64 43],.agg [.int .i64 0,.int .i64 12,.int .i64 0,.int .i64 1,.int .i64 0,.str [],.int .i64 38,.int .i64 39],.agg [.int .i64 0,.int .i64 13,.int .i64 0,.int .i64 1,.int .i64 0,.str [],.int .i64 42,.int .i64 43],.agg [.int .i64 0,.int .i64 11,.int .i64 0,.int .i64 2,.int .i64 0,.str [],.int .i64 38,.int .i64 43],.agg [.int .i64 1,.int .i64 12,.int .i64 7,.int .i64 0,.int .i64 0,.str [],.int .i64 38,.int .i64 39],.agg [.int .i64 0,.int .i64 13,.int .i64 0,.int .i64 1,.int .i64 0,.str [],.int .i64 42,.int .i64 43],.agg [.int .i64 1,.int .i64 16,.int .i64 17,.int .i64 0,.int .i64 0,.str [],.int .i64 46,.int .i64 56],.agg [.int .i64 1,.int .i64 16,.int .i64 7,.int .i64 0,.int .i64 0,.str [],.int .i64 46,.int .i64 47],.agg [.int .i64 0,.int .i64 18,.int .i64 0,.int .i64 1,.int .i64 0,.str [],.int .i64 50,.int .i64 51],.agg [.int .i64 0,.int .i64 19,.int .i64 0,.int .i64 1,.int .i64 0,.str [],.int .i64 54,.int .i64 55],.agg [.int .i64 0,.int .i64 17,.int .i64 0,.int .i64 1,.int .i64 0,.str [],.int .i64 50,.int .i64 55],.agg [.int .i64 1,.int .i64 18,.int .i64 7,.int .i64 0,.int .i64 0,.str [],.int .i64 50,.int .i64 51],.agg [.int .i64 1,.int .i64 19,.int .i64 3,.int .i64 0,.int .i64 0,.str [],.int .i64 54,.int .i64 55],.agg [.int .i64 1,.int .i64 21,.int .i64 22,.int .i64 0,.int .i64 0,.str [],.int .i64 59,.int .i64 65],.agg [.int .i64 1,.int .i64 21,.int .i64 3,.int .i64 0,.int .i64 0,.str [],.int .i64 59,.int .i64 60],.agg [.int .i64 0,.int .i64 22,.int .i64 0,.int .i64 1,.int .i64 0,.str [],.int .i64 63,.int .i64 64]],.int .i64 0]
def Va:List PV:=[.str [112,114,111,99,32,102,40,118,97,114,32,120,58,32,105,110,116,41,32,123,32,118,97,114,32,121,32,61,32,120,59,32,119,104,105,108,101,32,121,32,60,32,51,32,123,32,121,32,61,32,121,32,43,32,120,59,32,125,32,120,32,61,32,49,59,32,125]]
def U5:PV:=.tuple [mP,.nils,.int .i64 0]
def Vb:List PV:=[mP,.int .i64 0]
def U6:PV:=.tuple [.slice false 3 [.agg [.nils,.slice false 1 [.int .i64 0],.bool true],.agg [.slice false 1 [.int .i64 0],.nils,.bool false],.agg [.slice false 1 [.int .i64 0],.slice false 1 [.int .i64 1],.bool true],.agg [.slice false 1 [.int .i64 1],.nils,.bool false],.agg [.slice false 1 [.int .i64 0,.int .i64 1],.slice false 1 [.int .i64 1],.bool true],.agg [.nils,.slice false 1 [.int .i64 0],.bool true]],.int .i64 0]
def Ve:List PV:=[mP,.int .i64 0]
def U8:PV:=.tuple [.slice false 1 [.nils,.slice false 1 [.int .i64 1,.int .i64 2,.int .i64 3],.slice false 1 [.int .i64 0],.slice false 1 [.int .i64 0,.int .i64 1,.int .i64 2],.slice false 1 [.int .i64 0,.int .i64 1,.int .i64 2],.slice false 1 [.int .i64 0,.int .i64 1,.int .i64 2]],.int .i64 0]
def Vd:List PV:=[mP,.int .i64 0]
def U7:PV:=.tuple [.slice false 1 [.nils,.slice false 1 [.int .i64 0],.slice false 1 [.int .i64 0],.slice false 1 [.int .i64 0,.int .i64 1],.slice false 1 [.int .i64 0,.int .i64 1],.nils],.int .i64 0]
def YL:List PV:=[mP,.int .i64 0]
def YK:PV:=.tuple [.slice false 2 [.agg [.int .i64 0,.int .i64 0],.agg [.int .i64 2,.int .i64 1],.agg [.int .i64 4,.int .i64 1],.agg [.int .i64 5,.int .i64 0]],.int .i64 0]
end Go.Abs.Z

namespace Go.Abs.Z
noncomputable section
open Go.Proofs Go.RowKit Go.Abs.Y
set_option linter.unusedVariables false
mutual
def eqV:Nat→PV→PV→Bool
 |0,_,_=>false
 |n+1,a,b=>match a,b with
  |.int k i,.int k' i'=>decide (k=k')&&decide (i=i')
  |.bool x,.bool y=>decide (x=y)
  |.str s,.str s'=>decide (s=s')
  |.nils,.nils=>true
  |.agg l,.agg l'=>Tq n l l'
  |.tuple l,.tuple l'=>Tq n l l'
  |.slice o z l,.slice o' z' l'=>decide (o=o')&&(decide (z=z')&&Tq n l l')
  |_,_=>false
def Tq:Nat→List PV→List PV→Bool
 |0,_,_=>false
 |n+1,a,b=>match a,b with
  |[],[]=>true
  |x::xs,y::ys=>eqV n x y&&Tq n xs ys
  |_,_=>false
end
theorem Y6:∀n,(∀a b,eqV n a b=true→a=b)∧∀a b,Tq n a b=true→a=b:=by
 intro n
 induction n with
 |zero=>exact⟨fun a b h=>by simp[eqV] at h,fun a b h=>by simp[Tq] at h⟩
 |succ n ih=>
  refine⟨fun a b h=>?_,fun a b h=>?_⟩
  ·unfold eqV at h
   split at h
   ·simp only[Ak,decide_eq_true_eq] at h;rw[h.1,h.2]
   ·rw[of_decide_eq_true h]
   ·rw[of_decide_eq_true h]
   ·rfl
   ·rw[ih.2 _ _ h]
   ·rw[ih.2 _ _ h]
   ·simp only[Ak,decide_eq_true_eq] at h;rw[h.1,h.2.1,ih.2 _ _ h.2.2]
   ·cases h
  ·unfold Tq at h
   split at h
   ·rfl
   ·rw[Ak] at h;rw[ih.1 _ _ h.1,ih.2 _ _ h.2]
   ·cases h
def isD(R:PV):Option (PV×Sto)→Bool
 |some (r0,σ0)=>match SA 100 σ0 r0 with
  |some r=>eqV 1000 R r
  |none=>false
 |none=>false
def OM(R:PV)(x:Option (PV×SX)):Bool:=isD R (x.map fun p=>(p.1,p.2.toL))
def FH(f:FuncId)(A:List PV)(R:PV):Prop:=∀σ,Jp Tryz.prog f A σ R σ
def YF(A:List PV):Bool:=A.all PV.flat&&Tq 1000 (A.map PV.Ag) A
theorem known{call:Caller}(hS:EW Tryz.prog call){f:FuncId}{A:List PV}{R:PV}(ha:YF A=true)(h:isD R (call f A [])=true):FH f A R:=by
 intro σ;unfold YF at ha;rw[Ak] at ha
 have hown:∀p∈A,p.Ag=p:=by
  intro p hp;have h2:=(Y6 1000).2 _ _ ha.2;obtain⟨i,hi⟩:=Bb.1 hp;have h3:=congrArg (·[i]?) h2;simp only[Af,hi,Ay] at h3;exact Option.some.inj h3
 unfold isD at h
 split at h
 ·rename_i r0 σ0 hc
  split at h
  ·rename_i r hr;rw[(Y6 1000).1 _ _ h];exact Jp.iso (hS f A [] r0 σ0 hown hc) ha.1 hr σ
  ·cases h
 ·cases h
def memo(l:List (List PV×PV)):GM:=fun _ args σ=>(l.find? fun e=>Tq 1000 e.1 args).map fun e=>(e.2,σ)
theorem ZY{f:FuncId}{l:List (List PV×PV)}(h:∀e∈l,FH f e.1 e.2):FQ Tryz.prog f (memo l):=by
 intro call hS args σ r σ' hown hr;obtain⟨e,he,h2⟩:=Ac.1 hr;cases h2;have h3:=List.find?_some he
 rw[←(Y6 1000).2 _ _ h3];exact h e (List.mem_of_find?_eq_some he) _
def rE(l:List (List PV×PV)):LZ:=fun _ args s=>(l.find? fun e=>Tq 1000 e.1 args).map fun e=>(e.2,s)
theorem jJ(l:List (List PV×PV)):PR (rE l) (memo l):=by
 intro cX c _ args s r s' h;obtain⟨e,he,h2⟩:=Ac.1 h;cases h2;simp only[memo,he];rfl
def TT(g:GM):LZ:=fun _ args s=>(g (fun _ _ _=>none) args s.toL).map fun r=>(r.1,SX.ofL r.2)
theorem LC{g:GM}(hg:∀c args σ,g (fun _ _ _=>none) args σ=g c args σ):PR (TT g) g:=by
 intro cX c _ args s r s' h;obtain⟨x,hx,e⟩:=Ac.1 h;cases e;rw[←hg,hx,UE]
abbrev Trp:=FuncId×LZ×GM
structure Kb(x:Trp):Prop where
 pr:PR x.2.1 x.2.2
 ok:FQ Tryz.prog x.1 x.2.2
def tm(f:FuncId)(l:List (List PV×PV)):Trp:=(f,rE l,memo l)
theorem Er{f:FuncId}{l:List (List PV×PV)}(h:∀e∈l,FH f e.1 e.2):Kb (tm f l):=⟨jJ l,ZY h⟩
def lfP(lf:LFn):GM:=fun _ args σ=>TF pur itr 1000 lf (o9 150) args σ
def base:List Trp:=[(49,TT Q0,Q0),(145,TT (lfP ae),lfP ae),(122,TT (lfP ah),lfP ah),(15,TT KY,KY),(219,TT iZ,iZ)]
theorem qC:∀x∈base,Kb x:=by
 intro x hx;simp only[base,Av,AB,or_false] at hx;rcases hx with rfl | rfl | rfl | rfl | rfl
 ·exact⟨LC fun _ _ _=>rfl,aa⟩
 ·exact⟨LC fun _ _ _=>rfl,fun call _ args σ r σ' hown h=>(ME Vq mixed Tryz.func145 (by kernel_rfl) lX) (o9 150) (QK 150) args σ r σ' hown h⟩
 ·exact⟨LC fun _ _ _=>rfl,fun call _ args σ r σ' hown h=>(ME Vq mixed Tryz.func122 (by kernel_rfl) lY) (o9 150) (QK 150) args σ r σ' hown h⟩
 ·exact⟨LC fun _ _ _=>rfl,Qd⟩
 ·exact⟨LC fun _ _ _=>rfl,mJ⟩
def Gq(l:List Trp)(f:FuncId):Option LZ:=List.rec (motive:=fun _=>Option LZ) none (fun p _ ih=>Bool.rec (motive:=fun _=>Option LZ) ih (some p.2.1) (Nat.beq p.1 f)) l
def Xe(l:List Trp)(f:FuncId):Option GM:=List.rec (motive:=fun _=>Option GM) none (fun p _ ih=>Bool.rec (motive:=fun _=>Option GM) ih (some p.2.2) (Nat.beq p.1 f)) l
theorem look_ok:∀(l:List Trp),(∀x∈l,Kb x)→∀f,(Gq l f=none∧Xe l f=none)∨∃gX g,Gq l f=some gX∧Xe l f=some g∧PR gX g∧FQ Tryz.prog f g
 |[],_,f=>.inl ⟨rfl,rfl⟩
 |p::l,hl,f=>by
  have ih:=look_ok l (fun x hx=>hl x (Bw _ hx)) f
  have e1:Gq (p::l) f=Bool.rec (motive:=fun _=>Option LZ) (Gq l f) (some p.2.1) (Nat.beq p.1 f):=rfl
  have e2:Xe (p::l) f=Bool.rec (motive:=fun _=>Option GM) (Xe l f) (some p.2.2) (Nat.beq p.1 f):=rfl
  rw[e1,e2];cases hb:Nat.beq p.1 f with
  |true=>
   have hf:p.1=f:=AU hb;have:=hl p (BG ..);exact .inr ⟨_,_,rfl,rfl,this.pr,hf▸this.ok⟩
  |false=>exact ih
def wI(l:List Trp)(n:Nat):Caller:=LW pur (Xe (l++base)) tab n
def Gr(l:List Trp)(n:Nat):DN:=aI pur (Gq (l++base)) tab n
theorem both{l:List Trp}(h:∀x∈l,Kb x):∀x∈l++base,Kb x:=fun x hx=>(List.mem_append.1 hx).elim (h x) (qC x)
theorem Yn{l:List Trp}(h:∀x∈l,Kb x)(n:Nat):EW Tryz.prog (wI l n):=by
 refine Ha mixed VW (fun f g hg=>?_) n
 rcases look_ok _ (both h) f with⟨_,h2⟩ | ⟨gX,g',_,h2,_,h3⟩
 ·rw[h2] at hg;cases hg
 ·rw[h2] at hg;cases hg;exact h3
theorem Qf{l:List Trp}(h:∀x∈l,Kb x)(n:Nat):CR (Gr l n) (wI l n):=by
 refine XY (fun f=>?_) n
 rcases look_ok _ (both h) f with h1 | ⟨gX,g,h1,h2,h3,_⟩
 ·exact .inl h1
 ·exact .inr ⟨gX,g,h1,h2,h3⟩
theorem Jh{l:List Trp}(hl:∀x∈l,Kb x){f:FuncId}{A:List PV}{R:PV}(ha:YF A=true)(h:OM R (Gr l 200 f A SX.nil)=true):FH f A R:=by
 refine known (Yn hl 200) ha ?_
 unfold OM at h;cases hx:Gr l 200 f A SX.nil with
 |none=>rw[hx] at h;cases h
 |some x=>
  obtain⟨r,s⟩:=x;rw[hx] at h;have:=Qf hl 200 _ _ _ _ _ hx;rw[UF] at this;rw[this];exact h
end
end Go.Abs.Z
