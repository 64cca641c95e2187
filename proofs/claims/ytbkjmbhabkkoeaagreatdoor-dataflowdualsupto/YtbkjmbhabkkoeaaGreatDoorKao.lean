/- A part of the proof: P7 PI G1 A45 A46 GH Sh PS PL PM PN. -/
import Derived.Test.YtbkjmbhabkkoeaaGreatDoorKan
import Derived.Test.YtbkjmbhabkkoeaaGreatDoorKah
import Derived.Ground.NamesProg
import Derived.Shelf.Sort.Plain
import Derived.Shelf.Slices.In.SortNone
import Derived.Test.YtbkjmbhabkkoeaaGreatDoorProg

set_option linter.unusedVariables false
set_option linter.unusedSimpArgs false
namespace Go.Abs.Z
open Go.Proofs Go.RowKit Go.Shelf
set_option linter.unusedVariables false
attribute [local go_sem] Oper.semAt_some
def Good(I:Imm)(w:World)(vs:List Value)(l:List PV):Prop:=vs.length=l.length∧∀(j:Nat) (u:Value) (x:PV),vs[j]?=some u→l[j]?=some x→Rep I w u x
theorem Good.append{I:Imm}{w:World}{vs us:List Value}{l k:List PV}(h:Good I w vs l)(h2:Good I w us k):Good I w (vs++us) (l++k):=by
 refine⟨by simp[h.1,h2.1],fun j u x hu hx=>?_⟩
 by_cases hj:j<vs.length
 ·rw[Ae hj] at hu;rw[Ae (by rw[←h.1];exact hj)] at hx
  exact h.2 j u x hu hx
 ·rw[Al (by omega)] at hu
  rw[Al (by rw[←h.1];omega),←h.1] at hx
  exact h2.2 _ u x hu hx
theorem Good.cons{I:Imm}{w:World}{v:Value}{y:PV}{vs:List Value}{l:List PV}(hv:Rep I w v y)(h:Good I w vs l):Good I w (v::vs) (y::l):=by
 refine⟨by simp[h.1],fun j u x hu hx=>?_⟩
 cases j with
 |zero=>simp at hu hx;subst hu hx;exact hv
 |succ j=>exact h.2 j u x (by simpa using hu) (by simpa using hx)
theorem TH{I:Imm}{w:World}{k st en:Int}{s:ByteArray}{kv:Value}{x:PV}(h:Rep I w kv x):Rep I w (F9 k s st en kv) (.agg [.int .i64 k,.str s.data.toList,.int .i64 st,.int .i64 en,x]):=by
 refine .agg rfl fun i p hp=>?_
 match i with
 |0=>simp at hp;subst hp;exact .int _ _
 |1=>simp at hp;subst hp;exact .str _
 |2=>simp at hp;subst hp;exact .int _ _
 |3=>simp at hp;subst hp;exact .int _ _
 |4=>simp at hp;subst hp;exact h
 |i+5=>simp at hp
theorem eP{I:Imm}{w:World}:∀(N:Nat),(∀(T:PV) (L:List PV) (v:Value),Je N T=some L→Rep I w v T→Good I w (MX w N T v) L)∧
  (∀(ks r:List PV) (b o:Nat),H6 N ks=some r→(∀(j:Nat) (e:PV),ks[j]?=some e→(∃m l,Je (m+1) e=some l)→Rep I w (nodeAt w b (o+j * 5)) e)→Good I w (Jt w N ks b o) r):=by
 intro N
 induction N with
 |zero=>exact⟨fun T L v h=>by simp[Je] at h,fun ks r b o h=>by simp[H6] at h⟩
 |succ N ih=>
  refine⟨fun T L v h hr=>?_,fun ks r b o h hk=>?_⟩
  ·obtain⟨k,t,st,en,x,rfl,hx⟩:=GX h;obtain⟨s,kv,rfl,rfl,hkr⟩:=Pm hr;rcases hx with⟨rfl,rfl⟩ | ⟨o,ks,r,rfl,hks,rfl⟩
   ·exact Good.cons hr ⟨rfl,fun j u x h=>by simp at h⟩
   ·obtain⟨a,len,cap,rfl⟩:∃a len cap,kv=.slice (some a) len cap:=by
     obtain⟨a,len,cap,cv,e,_⟩:=(Bu.one (bl:=Bl.nil) (.inl hkr)).Gl;exact⟨a,len,cap,e⟩
    refine Good.cons hr (ih.2 ks r a.block a.off hks fun j e hj he=>?_)
    obtain⟨m,l,he⟩:=he;obtain⟨k',t',st',en',x',rfl,_⟩:=GX he;obtain⟨_,_,s',kv',hs1,_,_,_,_,_,_,hkr',hnode⟩:=kW hkr hj;rw[hnode,←hs1];exact TH hkr'
  ·cases ks with
   |nil=>simp only[H6] at h;cases h;exact⟨rfl,fun j u x h=>by simp[Jt] at h⟩
   |cons e ks=>
    obtain⟨l1,l2,h1,h2,rfl⟩:=Lt h;cases N with
    |zero=>simp[Je] at h1
    |succ N=>
     refine Good.append (ih.1 e l1 _ h1 (by have:=hk 0 e rfl ⟨N,l1,h1⟩;simpa using this)) (ih.2 ks l2 b (o+5) h2 fun j e' hj he=>?_)
     have:=hk (j+1) e' (by simpa using hj) he
     rw[show o+5+j * 5=o+(j+1) * 5 from by omega];exact this
theorem jw{v:Array Value}(h:v.size=1):v=#[v.getD 0 undef]:=by
 obtain⟨l⟩:=v
 match l,h with
 |[a],_=>rfl
def wu(gf:FuncId)(caps:List PV)(xs:List (List PV)):Prop:=
 ∀(I:Imm) (w:World) (cs:Array Value),(∀b x,I b x→b<w.heap.size)→cs.size=caps.length→(∀(i:Nat) (p:PV),caps[i]?=some p→Rep I w (cs.getD i undef) p)→
  ∃vs:List (Array Value),qI Tryz.prog gf cs vs I w∧vs.length=xs.length∧∀(j:Nat) (v:Array Value) (x:List PV),vs[j]?=some v→xs[j]?=some x→v.size=x.length∧∀(i:Nat) (p:PV),x[i]?=some p→Rep I w (v.getD i undef) p∧p.free=true∧p.Ag=p
theorem vX{I:Imm}{w:World}{vs:List Value}{l:List PV}(h:Good I w vs l):(vs.map fun u=>(#[u]:Array Value)).length=(l.map fun x=>[x.Ag]).length∧
  ∀(j:Nat) (v:Array Value) (x:List PV),(vs.map fun u=>(#[u]:Array Value))[j]?=some v→(l.map fun x=>[x.Ag])[j]?=some x→v.size=x.length∧∀(i:Nat) (p:PV),x[i]?=some p→Rep I w (v.getD i undef) p∧p.free=true∧p.Ag=p:=by
 refine⟨by simp[h.1],fun j v x hv hx=>?_⟩
 rw[Af] at hv hx;obtain⟨u,hu,rfl⟩:=Ac.1 hv;obtain⟨y,hy,rfl⟩:=Ac.1 hx;refine⟨rfl,fun i p hp=>?_⟩
 cases i with
 |zero=>
  simp at hp;subst hp;have:=h.2 j u y hu hy;exact⟨this.Ag,by rw[C9];exact QR this,MU y⟩
 |succ i=>simp at hp
theorem bW{T:PV}{L:List PV}(hL:Je 1000000 T=some L)(hsm:small L=true):wu 216 [.vptr T] (L.map fun x=>[x.Ag]):=by
 intro I w cs hI hsz hrep;have h0:=hrep 0 _ rfl;obtain⟨bx,off,cv,ev,i1,i2,i3⟩:=(Bu.one (bl:=Bl.nil) (.inl h0)).JR;have hcs:=jw hsz;rw[ev] at hcs;subst hcs;obtain⟨k,t,st,en,x,rfl,hx⟩:=GX hL;have r0:=(Bu.one (bl:=Bl.nil) (.inl (i3 0 _ rfl))).Db;obtain⟨s,r1,rfl⟩:=(Bu.one (bl:=Bl.nil) (.inl (i3 1 _ rfl))).Gz;have r2:=(Bu.one (bl:=Bl.nil) (.inl (i3 2 _ rfl))).Db;have r3:=(Bu.one (bl:=Bl.nil) (.inl (i3 3 _ rfl))).Db;have r4:=i3 4 x rfl;have d0:=i2 0 _ rfl;have d1:=i2 1 _ rfl;have d2:=i2 2 _ rfl;have d3:=i2 3 _ rfl;have d4:=i2 4 _ rfl;rw[r0] at d0;rw[r1] at d1;rw[r2] at d2;rw[r3] at d3;have hr:=TH (k:=k) (st:=st) (en:=en) (s:=s) r4;have hg:=(eP 1000000).1 _ L _ hL hr;obtain⟨a1,a2⟩:=vX hg;refine⟨_,qc hI fun F hd hfn hro n l S hS hY W hb h0'=>?_,a1,a2⟩
 have hW:∀j v,j<5→w.cell? ⟨bx,off+j,none⟩=some v→W.cell? ⟨bx,off+j,none⟩=some v:=fun j v hj hv=>by
  have hl:(PV.agg [.int .i64 k,.str s.data.toList,.int .i64 st,.int .i64 en,x]).cells.length=5:=rfl;have:=hI _ _ (i1 j _ (Ad (by rw[hl];exact hj)))
  rw[cell_of_heap (hb.block bx this)];exact hv
 refine bY F hd hfn hro n l I w bx off k s st en (cv 4) 1000000 _ L hL hr ?_ S hS hY W h0' (hW 0 _ (by decide) d0) (hW 1 _ (by decide) d1) (hW 2 _ (by decide) d2) (hW 3 _ (by decide) d3) (hW 4 _ (by decide) d4)
 rw[Am,hg.1];have:=of_decide_eq_true hsm;omega
end Go.Abs.Z

namespace Go.Abs.Z
open Go.Proofs Go.RowKit
theorem Vq:mW Tryz.prog itr:=by
 intro gf caps xs h;have e1:He Tryz.prog 216:=⟨Tryz.f216,Tryz.func216,by kernel_rfl,by kernel_rfl⟩
 unfold itr at h
 split at h
 ·rename_i hg;subst hg
  split at h
  ·split at h
   ·rename_i l hl
    split at h
    ·rename_i hs;cases h;exact⟨e1,bW hl hs⟩
    ·cases h
   ·cases h
  ·cases h
 ·cases h
end Go.Abs.Z

namespace Go.Abs
open Go.RowKit
def Sub(a b:FF):Prop:=∀t v,Dm a t=some v→Dm b t=some v
theorem Sub.refl(a:FF):Sub a a:=fun _ _ h=>h
theorem Sub.trans{a b c:FF}(h:Sub a b)(k:Sub b c):Sub a c:=fun t v x=>k t v (h t v x)
noncomputable def MO(ls:List Nat)(ff:FF):FF:=List.rec (motive:=fun _=>FF) [] (fun t _ ih=>(t,Dm ff t)::ih) ls
theorem HZ:∀(ls:List Nat) (ff:FF),Sub (MO ls ff) ff
 |[],_,_,_,h=>by cases h
 |s::ls,ff,t,v,h=>by
  have h':cond (Nat.beq s t) (Dm ff s) (Dm (MO ls ff) t)=some v:=h;cases hb:Nat.beq s t with
  |true=>rw[hb] at h';rw[←AU hb];exact h'
  |false=>rw[hb] at h';exact HZ ls ff t v h'
section
variable(pur:FuncId→Bool)(R:Nat→Caller)
def EM(k:AK)(vs:List PV)(σ:Sto)(rs:List (Option PV))(σ':Sto):Prop:=∃N,∀n,N≤n→sem pur (R n) k vs σ=some (rs,σ')
def JP(c:Dc)(ff:FF)(σ:Sto)(e:Bt)(ff':FF)(σ':Sto):Prop:=
 ∃N,∀n,N≤n→∀ff0,Sub ff ff0→∃ff1,EI pur (R n) n c ff0 σ=some (e,ff1,σ')∧Sub ff' ff1
def IL(keep:List Bool)(c:Dc)(ff:FF)(σ:Sto)(e:Bt)(ff':FF)(σ':Sto):Prop:=
 ∃N,∀n,N≤n→∀m,N≤m→∀ff0,Sub ff ff0→∃ff1,MQ keep (EI pur (R n) n c) m ff0 σ=some (e,ff1,σ')∧Sub ff' ff1
def Ev(f:FuncId)(args:List PV)(σ:Sto)(r:PV)(σ':Sto):Prop:=∃N,∀n,N≤n→R n f args σ=some (r,σ')
inductive Ans where
 |res (rs:List (Option PV)) (σ:Option Sto)
 |grd (d:Bool)
 |grdr (rs:List (Option PV)) (σ:Option Sto)
 |br (b:Bool)
 |loop (ls:List Nat) (e:Bt) (ff:FF) (σ:Sto)
abbrev Tape:=List (Nat×Ans)
structure TO where
 e:Bt
 ff:FF
 σ:Sto
 tp:Tape
 q:Prop
abbrev TX:=Option TO
noncomputable section
def M5:Caller:=fun _ _ _=>none
def Y1(d:Option Nat)(ex clr:List Nat)(ff:FF)(rs:List (Option PV))(σ:Sto):RFS:=
 cond (Nat.beq rs.length (d.toList.length+ex.length)) (some (K6 (d.toList++ex++clr) (rs++clr.map fun _=>none) ff,σ)) (cond (d.isNone&&ex.isEmpty&&clr.isEmpty) (some (ff,σ)) none)
def eX(tp:Tape)(q:Prop)(r:RFS):TX:=Option.rec (motive:=fun _=>TX) none (fun r=>some ⟨.normal,r.1,r.2,tp,q⟩) r
def gS(σ:Sto)(u:Option Sto):Sto:=Option.rec (motive:=fun _=>Sto) σ (fun x=>x) u
def WQ(k:AK)(vs:List PV)(σ:Sto)(rs:List (Option PV))(u:Option Sto):Prop:=Option.rec (motive:=fun _=>Prop) (∀(R:Nat→Caller) (σ:Sto),EM pur R k vs σ rs σ) (fun σ1=>EM pur R k vs σ rs σ1) u
def Pb(o:AOp)(ff:FF)(σ:Sto)(tp:Tape)(q:Prop)(a:Ans):TX:=
 Ans.rec (motive:=fun _=>TX)
  (fun rs u=>Option.rec (motive:=fun _=>TX) (Option.rec (motive:=fun _=>TX) none (fun vs=>eX tp (WQ pur R o.k vs σ rs u∧q) (Y1 o.dst o.ex o.clr ff rs (gS σ u))) (DT ff o.args)) (fun _=>none) o.guard)
  (fun d=>Option.rec (motive:=fun _=>TX) none (fun g=>eX tp (Ex (Dm ff g.1) g.2=some d∧q) (cond d (Ja pur M5 o ff σ) (cond (o.ex.isEmpty&&o.clr.isEmpty) (some (K6 o.wr [some Iy] ff,σ)) none))) o.guard)
  (fun rs u=>Option.rec (motive:=fun _=>TX) none (fun g=>Option.rec (motive:=fun _=>TX) none (fun vs=>eX tp (WQ pur R o.k vs σ rs u∧Ex (Dm ff g.1) g.2=some true∧q) (Y1 o.dst o.ex o.clr ff rs (gS σ u))) (DT ff o.args)) o.guard)
  (fun _=>none) (fun _ _ _ _=>none) a
def VZ{α:Type}(tp:Tape)(plain:Tape→α)(spec:Tape→Ans→α):α:=
 List.rec (motive:=fun _=>α) (plain []) (fun x tp _=>Nat.rec (motive:=fun _=>α) (spec tp x.2) (fun n _=>plain ((n,x.2)::tp)) x.1) tp
def tOp(o:AOp)(ff:FF)(σ:Sto)(tp:Tape)(q:Prop):TX:=
 VZ tp (fun tp=>eX tp q (F5 pur M5 o ff σ)) (fun tp a=>Pb pur R o ff σ tp q a)
def XZ(r:TX)(k:FF→Sto→Tape→Prop→TX):TX:=
 Option.rec (motive:=fun _=>TX) none (fun r=>cond (Fg r.e) (k r.ff r.σ r.tp r.q) (some r)) r
def sO(os:List AOp):FF→Sto→Tape→Prop→TX:=
 List.rec (motive:=fun _=>FF→Sto→Tape→Prop→TX) (fun ff σ tp q=>some ⟨.normal,ff,σ,tp,q⟩) (fun o _ ih ff σ tp q=>XZ (tOp pur R o ff σ tp q) ih) os
def fA(c:Ct)(x y:FF→Sto→Tape→Prop→TX)(ff:FF)(σ:Sto)(tp:Tape)(q:Prop):TX:=
 VZ tp (fun tp=>match DT ff [c] with
  |some [.bool b]=>cond b (x ff σ tp q) (y ff σ tp q)
  |_=>none)
  (fun tp a=>Ans.rec (motive:=fun _=>TX) (fun _ _=>none) (fun _=>none) (fun _ _=>none) (fun b=>cond b (x ff σ tp (DT ff [c]=some [.bool b]∧q)) (y ff σ tp (DT ff [c]=some [.bool b]∧q))) (fun _ _ _ _=>none) a)
def fB(id:Nat)(r:TX):TX:=
 Option.rec (motive:=fun _=>TX) none (fun r=>Bt.rec (motive:=fun _=>TX) (some r) (fun i=>cond (Nat.beq i id) (some ⟨.normal,r.ff,r.σ,r.tp,r.q⟩) (some r)) (some r) r.e) r
def fq(keep:List Bool)(c:Dc)(ff:FF)(σ:Sto)(tp:Tape)(q:Prop):TX:=
 VZ tp (fun _=>none) (fun tp a=>Ans.rec (motive:=fun _=>TX) (fun _ _=>none) (fun _=>none) (fun _ _=>none) (fun _=>none)
  (fun ls e ff1 σ1=>some ⟨e,ff1,σ1,tp,IL pur R keep c (MO ls (DD ff keep 0)) σ e ff1 σ1∧q⟩) a)
def tTr(os:List AOp):FF→Sto→Tape→Prop→Option (List (FF×Sto)×TO):=
 List.rec (motive:=fun _=>FF→Sto→Tape→Prop→Option (List (FF×Sto)×TO)) (fun ff σ tp q=>some ([(ff,σ)],⟨.normal,ff,σ,tp,q⟩)) (fun o _ ih ff σ tp q=>
  Option.rec (motive:=fun _=>Option (List (FF×Sto)×TO)) none (fun r=>Option.rec (motive:=fun _=>Option (List (FF×Sto)×TO)) none (fun l=>some ((ff,σ)::l.1,l.2)) (ih r.ff r.σ r.tp r.q)) (tOp pur R o ff σ tp q)) os
def LdR(o:AOp)(ff:FF)(σ σ':Sto):Prop:=match o.k,DT ff o.args with
 |.r k,some vs=>∃rs,K8 rs rs=true∧BR k vs σ=some rs∧BR k vs σ'=some rs
 |_,_=>False
def LdQ(o:AOp)(ff:FF)(σ σ':Sto):Prop:=match o.guard with
 |none=>LdR o ff σ σ'
 |some g=>match Ex (Dm ff g.1) g.2 with
  |some true=>LdR o ff σ σ'
  |some false=>True
  |none=>False
def wo(ops:List AOp)(tr:List (FF×Sto))(p:Nat×Nat):Prop:=match ops[p.2]?,tr[p.2]?,tr[p.1]?,tr[p.1+1]? with
 |some o,some (ff,_),some (_,σ),some (_,σ')=>LdQ o ff σ σ'
 |_,_,_,_=>False
def LoQ(ops:List AOp)(tr:List (FF×Sto))(lo:List (Nat×Nat)):Prop:=List.rec (motive:=fun _=>Prop) True (fun p _ ih=>wo ops tr p∧ih) lo
def fu(ops:List AOp)(lo:List (Nat×Nat))(ff:FF)(σ:Sto)(tp:Tape)(q:Prop):TX:=
 Option.rec (motive:=fun _=>TX) none (fun r=>VZ r.2.tp (fun _=>none) (fun tp a=>Ans.rec (motive:=fun _=>TX) (fun _ _=>none) (fun _=>some ⟨.normal,r.2.ff,r.2.σ,tp,LoQ ops r.1 lo∧r.2.q⟩) (fun _ _=>none) (fun _=>none) (fun _ _ _ _=>none) a)) (tTr pur R ops ff σ tp q)
def JH(c:Dc):FF→Sto→Tape→Prop→TX:=
 Dc.rec (motive:=fun _=>FF→Sto→Tape→Prop→TX)
  (fun ff σ tp q=>some ⟨.normal,ff,σ,tp,q⟩)
  (fun ops=>sO pur R ops)
  (fun _ _ iha ihb ff σ tp q=>XZ (iha ff σ tp q) ihb)
  (fun c _ _ iht ihe=>fA c iht ihe)
  (fun id _ ih ff σ tp q=>fB id (ih ff σ tp q))
  (fun keep c _=>fq pur R keep c)
  (fun id ff σ tp q=>some ⟨.exit id,ff,σ,tp,q⟩)
  (fun ff σ tp q=>some ⟨.ret,ff,σ,tp,q⟩)
  (fun ops lo=>fu pur R ops lo) c
end
end
section
variable{pur:FuncId→Bool}{R:Nat→Caller}{ff ff' ff0:FF}{σ σ':Sto}{tp tp':Tape}{q q':Prop}{e:Bt}
theorem G9(h:Sub ff ff0):∀(zs:List Ct) (vs:List PV),DT ff zs=some vs→DT ff0 zs=some vs
 |[],vs,he=>he
 |.slot t::zs,vs,he=>by
  have he':(Option.rec (motive:=fun _=>Option (List PV)) none (fun v=>Option.rec (motive:=fun _=>Option (List PV)) none (fun vs=>some (v::vs)) (DT ff zs)) (Dm ff t))=some vs:=he
  show(Option.rec (motive:=fun _=>Option (List PV)) none (fun v=>Option.rec (motive:=fun _=>Option (List PV)) none (fun vs=>some (v::vs)) (DT ff0 zs)) (Dm ff0 t))=some vs
  cases hg:Dm ff t with
  |none=>rw[hg] at he';cases he'
  |some v=>
   rw[hg] at he';cases hr:DT ff zs with
   |none=>rw[hr] at he';cases he'
   |some ws=>
    rw[hr] at he';rw[h t v hg,G9 h zs ws hr];exact he'
 |.val v::zs,vs,he=>by
  have he':(Option.rec (motive:=fun _=>Option (List PV)) none (fun vs=>some (v::vs)) (DT ff zs))=some vs:=he
  show(Option.rec (motive:=fun _=>Option (List PV)) none (fun vs=>some (v::vs)) (DT ff0 zs))=some vs
  cases hr:DT ff zs with
  |none=>rw[hr] at he';cases he'
  |some ws=>
   rw[hr] at he';rw[G9 h zs ws hr];exact he'
theorem QU:∀(ts:List Nat) (vs:List (Option PV)) {ff ff0:FF},Sub ff ff0→Sub (K6 ts vs ff) (K6 ts vs ff0)
 |[],vs,ff,ff0,h=>by cases vs<;>exact h
 |t::ts,[],ff,ff0,h=>h
 |t::ts,v::vs,ff,ff0,h=>by
  refine QU ts vs (ff:=(t,v)::ff) (ff0:=(t,v)::ff0) fun s x hx=>?_
  rw[FV] at hx ⊢;cases hb:Nat.beq t s with
  |true=>simp only[hb,cond_true] at hx ⊢;exact hx
  |false=>simp only[hb,cond_false] at hx ⊢;exact h s x hx
theorem Sa{d:Option Nat}{ex clr:List Nat}{rs:List (Option PV)}(h:Sub ff ff0)(he:Y1 d ex clr ff rs σ=some (ff',σ')):∃ff1,Y1 d ex clr ff0 rs σ=some (ff1,σ')∧Sub ff' ff1:=by
 unfold Y1 at he ⊢;cases hb:Nat.beq rs.length (d.toList.length+ex.length) with
 |true=>rw[hb] at he;cases he;exact⟨_,rfl,QU _ _ h⟩
 |false=>
  rw[hb] at he;cases hc:(d.isNone&&ex.isEmpty&&clr.isEmpty) with
  |true=>rw[hc] at he;cases he;exact⟨_,rfl,h⟩
  |false=>rw[hc] at he;cases he
theorem Yi{call:Caller}{k:AK}{vs:List PV}{x:List (Option PV)×Sto}(h:sem pur M5 k vs σ=some x):sem pur call k vs σ=some x:=by
 cases k with
 |p k=>exact h
 |r k=>exact h
 |c f=>
  simp only[sem,M5] at h
  split at h<;>simp at h
 |w k=>
  simp only[sem] at h ⊢;unfold Cq at h ⊢
  split at h<;>first
   |exact h
   |(simp only[M5] at h;repeat' split at h;all_goals simp at h)
theorem UO{call:Caller}{o:AOp}{vs:List PV}{rs:List (Option PV)}{σ1:Sto}(hv:DT ff o.args=some vs)(hs:sem pur call o.k vs σ=some (rs,σ1)):Ja pur call o ff σ=Y1 o.dst o.ex o.clr ff rs σ1:=by
 unfold Ja;rw[hv];dsimp only;rw[hs];rfl
theorem iD{call:Caller}{o:AOp}(h:Ja pur call o ff σ=some (ff',σ')):∃vs rs σ1,DT ff o.args=some vs∧sem pur call o.k vs σ=some (rs,σ1)∧Y1 o.dst o.ex o.clr ff rs σ1=some (ff',σ'):=by
 unfold Ja at h;cases hv:DT ff o.args with
 |none=>rw[hv] at h;cases h
 |some vs=>
  rw[hv] at h;dsimp only at h;cases hs:sem pur call o.k vs σ with
  |none=>rw[hs] at h;cases h
  |some r=>
   rw[hs] at h;exact⟨vs,r.1,r.2,rfl,hs,h⟩
theorem QJ{call:Caller}{o:AOp}(h:Sub ff ff0)(he:Ja pur M5 o ff σ=some (ff',σ')):∃ff1,Ja pur call o ff0 σ=some (ff1,σ')∧Sub ff' ff1:=by
 obtain⟨vs,rs,σ1,h1,h2,h3⟩:=iD he;rw[UO (G9 h _ _ h1) (Yi h2)];exact Sa h h3
theorem Ig{g:Nat}{b d:Bool}(h:Sub ff ff0)(he:Ex (Dm ff g) b=some d):Ex (Dm ff0 g) b=some d:=by
 cases hg:Dm ff g with
 |none=>rw[hg] at he;simp[Ex] at he
 |some v=>rw[h g v hg,←hg];exact he
theorem JE{call:Caller}{o:AOp}{g:Nat×Bool}{d:Bool}(hg:o.guard=some g)(hw:Ex (Dm ff g.1) g.2=some d):
  F5 pur call o ff σ=cond d (Ja pur call o ff σ) (cond (o.ex.isEmpty&&o.clr.isEmpty) (some (K6 o.wr [some Iy] ff,σ)) none):=by
 unfold F5;rw[hg];dsimp only;rw[hw]
theorem Tx{o:AOp}(h:Sub ff ff0)(he:cond (o.ex.isEmpty&&o.clr.isEmpty) (some (K6 o.wr [some Iy] ff,σ)) none=some (ff',σ')):
  ∃ff1,cond (o.ex.isEmpty&&o.clr.isEmpty) (some (K6 o.wr [some Iy] ff0,σ)) none=some (ff1,σ')∧Sub ff' ff1:=by
 cases hc:(o.ex.isEmpty&&o.clr.isEmpty) with
 |true=>rw[hc] at he;cases he;exact⟨_,rfl,QU _ _ h⟩
 |false=>rw[hc] at he;cases he
theorem dB{call:Caller}{o:AOp}(h:Sub ff ff0)(he:F5 pur M5 o ff σ=some (ff',σ')):∃ff1,F5 pur call o ff0 σ=some (ff1,σ')∧Sub ff' ff1:=by
 cases hg:o.guard with
 |none=>
  unfold F5 at he ⊢;rw[hg] at he ⊢;exact QJ h he
 |some g=>
  cases hw:Ex (Dm ff g.1) g.2 with
  |none=>
   unfold F5 at he;rw[hg] at he;dsimp only at he;rw[hw] at he;cases he
  |some d=>
   rw[JE hg hw] at he;rw[JE hg (Ig h hw)];cases d with
   |true=>exact QJ h he
   |false=>exact Tx h he
theorem Y5{call:Caller}{o:AOp}(hg:o.guard=none):F5 pur call o ff σ=Ja pur call o ff σ:=by
 unfold F5;rw[hg]
def OpT(pur:FuncId→Bool)(R:Nat→Caller)(o:AOp)(ff:FF)(σ:Sto)(ff':FF)(σ':Sto):Prop:=
 ∃N,∀n,N≤n→∀ff0,Sub ff ff0→∃ff1,F5 pur (R n) o ff0 σ=some (ff1,σ')∧Sub ff' ff1
theorem Nr{r:RFS}{x:TO}(h:eX tp q r=some x):∃ff' σ',r=some (ff',σ')∧x=⟨.normal,ff',σ',tp,q⟩:=by
 cases r with
 |none=>cases h
 |some r=>cases h;exact⟨r.1,r.2,rfl,rfl⟩
theorem opW{k:AK}{vs:List PV}{rs:List (Option PV)}{u:Option Sto}(h:WQ pur R k vs σ rs u):EM pur R k vs σ rs (gS σ u):=by
 cases u with
 |none=>exact h R σ
 |some x=>exact h
theorem VX{o:AOp}{a:Ans}{x:TO}(h:Pb pur R o ff σ tp q a=some x):x.e=.normal∧(x.q→q)∧(x.q→OpT pur R o ff σ x.ff x.σ):=by
 cases a with
 |br b=>cases h
 |loop ls e f s=>cases h
 |res rs u=>
  cases hg:o.guard with
  |some g=>simp only[Pb,hg] at h;cases h
  |none=>
   simp only[Pb,hg] at h;cases hv:DT ff o.args with
   |none=>rw[hv] at h;cases h
   |some vs=>
    rw[hv] at h;obtain⟨ff',σ',h1,rfl⟩:=Nr h;refine⟨rfl,fun hq=>hq.2,fun hq=>?_⟩
    obtain⟨N,hN⟩:=opW hq.1;refine⟨N,fun n hn ff0 hs=>?_⟩
    rw[Y5 hg,UO (G9 hs _ _ hv) (hN n hn)];exact Sa hs h1
 |grd d=>
  cases hg:o.guard with
  |none=>simp only[Pb,hg] at h;cases h
  |some g=>
   simp only[Pb,hg] at h;obtain⟨ff',σ',h1,rfl⟩:=Nr h;refine⟨rfl,fun hq=>hq.2,fun hq=>⟨0,fun n _ ff0 hs=>?_⟩⟩
   rw[JE hg (Ig hs hq.1)];cases d with
   |true=>exact QJ hs h1
   |false=>exact Tx hs h1
 |grdr rs u=>
  cases hg:o.guard with
  |none=>simp only[Pb,hg] at h;cases h
  |some g=>
   simp only[Pb,hg] at h;cases hv:DT ff o.args with
   |none=>rw[hv] at h;cases h
   |some vs=>
    rw[hv] at h;obtain⟨ff',σ',h1,rfl⟩:=Nr h;refine⟨rfl,fun hq=>hq.2.2,fun hq=>?_⟩
    obtain⟨N,hN⟩:=opW hq.1;refine⟨N,fun n hn ff0 hs=>?_⟩
    rw[JE hg (Ig hs hq.2.1),cond_true,UO (G9 hs _ _ hv) (hN n hn)];exact Sa hs h1
theorem Mc{α:Type}{tp:Tape}{plain:Tape→α}{spec:Tape→Ans→α}(P:α→Prop)(h1:∀t,P (plain t))(h2:∀t a,P (spec t a)):P (VZ tp plain spec):=by
 cases tp with
 |nil=>exact h1 _
 |cons x tp=>
  obtain⟨n,a⟩:=x;cases n with
  |zero=>exact h2 _ _
  |succ n=>exact h1 _
theorem TA{o:AOp}:∀{x:TO},tOp pur R o ff σ tp q=some x→x.e=.normal∧(x.q→q)∧(x.q→OpT pur R o ff σ x.ff x.σ):=by
 unfold tOp;refine Mc (fun r=>∀{x:TO},r=some x→x.e=.normal∧(x.q→q)∧(x.q→OpT pur R o ff σ x.ff x.σ)) (fun t {x} h=>?_) (fun t a {x} h=>VX h)
 obtain⟨ff',σ',h1,rfl⟩:=Nr h;exact⟨rfl,id,fun _=>⟨0,fun n _ ff0 hs=>dB hs h1⟩⟩
theorem Ur{r:TX}{k:FF→Sto→Tape→Prop→TX}{x:TO}(h:XZ r k=some x):∃y,r=some y∧((y.e=.normal∧k y.ff y.σ y.tp y.q=some x)∨(y.e≠.normal∧y=x)):=by
 cases r with
 |none=>cases h
 |some y=>
  refine⟨y,rfl,?_⟩
  have h':cond (Fg y.e) (k y.ff y.σ y.tp y.q) (some y)=some x:=h;obtain⟨e,f,s,t,q⟩:=y;cases e with
  |normal=>exact .inl ⟨rfl,h'⟩
  |exit i=>exact .inr ⟨by simp,Option.some.inj h'⟩
  |ret=>exact .inr ⟨by simp,Option.some.inj h'⟩
theorem bH(call:Caller)(o:AOp)(os:List AOp):MI pur call (o::os) ff σ=Option.rec (motive:=fun _=>RX) none (fun r=>MI pur call os r.1 r.2) (F5 pur call o ff σ):=rfl
theorem Qy:∀(os:List AOp) {ff:FF} {σ:Sto} {tp:Tape} {q:Prop} {x:TO},sO pur R os ff σ tp q=some x→(x.q→q)∧(x.q→JP pur R (.region os) ff σ x.e x.ff x.σ)
 |[],ff,σ,tp,q,x,h=>by cases h;exact⟨id,fun _=>⟨0,fun n _ ff0 hs=>⟨ff0,rfl,hs⟩⟩⟩
 |o::os,ff,σ,tp,q,x,h=>by
  have h':XZ (tOp pur R o ff σ tp q) (sO pur R os)=some x:=h;obtain⟨y,hy,hc⟩:=Ur h';obtain⟨e1,hq1,ho⟩:=TA hy;rcases hc with⟨_,hk⟩ | ⟨hne,_⟩
  ·obtain⟨hq2,hr⟩:=Qy os hk;refine⟨fun hx=>hq1 (hq2 hx),fun hx=>?_⟩
   obtain⟨N1,H1⟩:=ho (hq2 hx);obtain⟨N2,H2⟩:=hr hx;refine⟨max N1 N2,fun n hn ff0 hs=>?_⟩
   obtain⟨ff1,a1,a2⟩:=H1 n (by omega) ff0 hs
   obtain⟨ff2,b1,b2⟩:=H2 n (by omega) ff1 a2
   refine⟨ff2,?_,b2⟩
   show MI pur (R n) (o::os) ff0 σ=_;rw[bH,a1];exact b1
  ·exact absurd e1 hne
theorem eU(call:Caller)(o:AOp)(os:List AOp):trK pur call (o::os) ff σ=Option.rec (motive:=fun _=>Option (List (FF×Sto))) none (fun r=>Option.rec (motive:=fun _=>Option (List (FF×Sto))) none (fun l=>some ((ff,σ)::l)) (trK pur call os r.1 r.2)) (F5 pur call o ff σ):=rfl
theorem Tz:∀(os:List AOp) {ff:FF} {σ:Sto} {tp:Tape} {q:Prop} {tr:List (FF×Sto)} {x:TO},tTr pur R os ff σ tp q=some (tr,x)→tr.getLast?=some (x.ff,x.σ)∧(x.q→q)∧
  (x.q→∃N,∀n,N≤n→∀ff0,Sub ff ff0→∃tr1,trK pur (R n) os ff0 σ=some tr1∧tr1.length=tr.length∧∀(i:Nat) (f:FF) (s:Sto),tr[i]?=some (f,s)→∃f1,tr1[i]?=some (f1,s)∧Sub f f1)
 |[],ff,σ,tp,q,tr,x,h=>by
  cases h;refine⟨rfl,id,fun _=>⟨0,fun n _ ff0 hs=>⟨[(ff0,σ)],rfl,rfl,fun i f s hi=>?_⟩⟩⟩
  cases i with
  |zero=>cases hi;exact⟨ff0,rfl,hs⟩
  |succ i=>simp at hi
 |o::os,ff,σ,tp,q,tr,x,h=>by
  have h':Option.rec (motive:=fun _=>Option (List (FF×Sto)×TO)) none (fun r=>Option.rec (motive:=fun _=>Option (List (FF×Sto)×TO)) none (fun l=>some ((ff,σ)::l.1,l.2)) (tTr pur R os r.ff r.σ r.tp r.q)) (tOp pur R o ff σ tp q)=some (tr,x):=h
  cases hy:tOp pur R o ff σ tp q with
  |none=>rw[hy] at h';cases h'
  |some y=>
   rw[hy] at h';obtain⟨_,hq1,ho⟩:=TA hy;cases hk:tTr pur R os y.ff y.σ y.tp y.q with
   |none=>dsimp only at h';rw[hk] at h';cases h'
   |some l=>
    dsimp only at h';rw[hk] at h';obtain⟨l1,l2⟩:=l;cases h';obtain⟨h1,h2,h3⟩:=Tz os hk;refine⟨by rw[List.getLast?_cons,h1];rfl,fun hx=>hq1 (h2 hx),fun hx=>?_⟩
    obtain⟨N1,H1⟩:=ho (h2 hx);obtain⟨N2,H2⟩:=h3 hx;refine⟨max N1 N2,fun n hn ff0 hs=>?_⟩
    obtain⟨ff1,a1,a2⟩:=H1 n (by omega) ff0 hs
    obtain⟨tr1,b1,b2,b3⟩:=H2 n (by omega) ff1 a2
    refine⟨(ff0,σ)::tr1,by rw[eU,a1];dsimp only;rw[b1],by simp[b2],fun i f s hi=>?_⟩
    cases i with
    |zero=>cases hi;exact⟨ff0,rfl,hs⟩
    |succ i=>exact b3 i f s (by simpa using hi)
theorem kT{o:AOp}{s s':Sto}(hs:Sub ff ff0)(h:LdR o ff s s'):∃k vs rs,o.k=.r k∧DT ff0 o.args=some vs∧K8 rs rs=true∧BR k vs s=some rs∧BR k vs s'=some rs:=by
 unfold LdR at h
 split at h
 ·rename_i k vs hk hv;obtain⟨rs,h0,h1,h2⟩:=h;exact⟨k,vs,rs,hk,G9 hs _ _ hv,h0,h1,h2⟩
 ·cases h
theorem uX{o:AOp}{s s':Sto}(hs:Sub ff ff0)(h:LdQ o ff s s'):Oe (ldK o ff0 s) (ldK o ff0 s')=true:=by
 unfold LdQ at h
 split at h
 ·rename_i hg;obtain⟨k,vs,rs,h1,h2,h0,h3,h4⟩:=kT hs h;unfold ldK;rw[hg];dsimp only;rw[h1,h2];dsimp only;rw[h3,h4];exact h0
 ·rename_i g hg
  split at h
  ·rename_i hw;obtain⟨k,vs,rs,h1,h2,h0,h3,h4⟩:=kT hs h;unfold ldK;rw[hg];dsimp only;rw[Ig hs hw];dsimp only;rw[h1,h2];dsimp only;rw[h3,h4];exact h0
  ·rename_i hw;unfold ldK;rw[hg];dsimp only;rw[Ig hs hw];rfl
  ·cases h
theorem Z9{ops:List AOp}{tr:List (FF×Sto)}:∀{lo:List (Nat×Nat)},LoQ ops tr lo→∀p∈lo,wo ops tr p
 |[],_,p,hp=>by cases hp
 |x::lo,h,p,hp=>by
  rcases Av.1 hp with rfl | hp
  ·exact h.1
  ·exact Z9 (lo:=lo) h.2 p hp
theorem VY{ops:List AOp}{lo:List (Nat×Nat)}{x:TO}(h:fu pur R ops lo ff σ tp q=some x):(x.q→q)∧(x.q→JP pur R (.draw ops lo) ff σ x.e x.ff x.σ):=by
 unfold fu at h;cases ht:tTr pur R ops ff σ tp q with
 |none=>rw[ht] at h;cases h
 |some r=>
  rw[ht] at h;obtain⟨tr,y⟩:=r;dsimp only at h;obtain⟨h1,h2,h3⟩:=Tz ops ht
  revert h
  refine Mc (fun r=>r=some x→(x.q→q)∧(x.q→JP pur R (.draw ops lo) ff σ x.e x.ff x.σ)) (fun t hx=>by cases hx) (fun t an hx=>?_)
  cases an with
  |grd d=>
   cases hx;refine⟨fun hq=>h2 hq.2,fun hq=>?_⟩
   obtain⟨N,H⟩:=h3 hq.2;refine⟨N,fun n hn ff0 hs=>?_⟩
   obtain⟨tr1,a1,a2,a3⟩:=H n hn ff0 hs;rw[DJ,←a2] at h1;obtain⟨f1,b1,b2⟩:=a3 _ _ _ h1;refine⟨f1,?_,b2⟩
   show Sv pur (R n) ops lo ff0 σ=_;unfold Sv;rw[a1]
   have hl:Rm ops tr1 lo=true:=by
    refine Ao.2 fun p hp=>?_
    have hp1:=Z9 hq.1 p hp;unfold wo at hp1
    split at hp1
    ·rename_i o f s1 f2 s2 f3 s3 ho q1 q2 q3;obtain⟨z1,w1,r1⟩:=a3 _ _ _ q1;obtain⟨z2,w2,_⟩:=a3 _ _ _ q2;obtain⟨z3,w3,_⟩:=a3 _ _ _ q3;rw[ho,w1,w2,w3];exact uX r1 hp1
    ·cases hp1
   dsimp only;rw[hl,DJ,b1];rfl
  |_=>cases hx
theorem HV:∀(c:Dc) {ff:FF} {σ:Sto} {tp:Tape} {q:Prop} {x:TO},JH pur R c ff σ tp q=some x→(x.q→q)∧(x.q→JP pur R c ff σ x.e x.ff x.σ):=by
 intro c
 induction c with
 |skip=>intro ff σ tp q x h;cases h;exact⟨id,fun _=>⟨0,fun n _ ff0 hs=>⟨ff0,rfl,hs⟩⟩⟩
 |region ops=>intro ff σ tp q x h;exact Qy ops h
 |draw ops lo=>intro ff σ tp q x h;exact VY h
 |exit i=>intro ff σ tp q x h;cases h;exact⟨id,fun _=>⟨0,fun n _ ff0 hs=>⟨ff0,rfl,hs⟩⟩⟩
 |ret=>intro ff σ tp q x h;cases h;exact⟨id,fun _=>⟨0,fun n _ ff0 hs=>⟨ff0,rfl,hs⟩⟩⟩
 |seq a b iha ihb=>
  intro ff σ tp q x h;have h':XZ (JH pur R a ff σ tp q) (JH pur R b)=some x:=h;obtain⟨y,hy,hc⟩:=Ur h';obtain⟨hq1,ho⟩:=iha hy;have hseq:∀n ff0,EI pur (R n) n (.seq a b) ff0 σ=Option.rec (motive:=fun _=>RX) none (fun r=>cond (Fg r.1) (EI pur (R n) n b r.2.1 r.2.2) (some r)) (EI pur (R n) n a ff0 σ):=fun _ _=>rfl
  rcases hc with⟨he,hk⟩ | ⟨hne,rfl⟩
  ·obtain⟨hq2,hr⟩:=ihb hk;refine⟨fun hx=>hq1 (hq2 hx),fun hx=>?_⟩
   obtain⟨N1,H1⟩:=ho (hq2 hx);obtain⟨N2,H2⟩:=hr hx;rw[he] at H1;refine⟨max N1 N2,fun n hn ff0 hs=>?_⟩
   obtain⟨ff1,a1,a2⟩:=H1 n (by omega) ff0 hs
   obtain⟨ff2,b1,b2⟩:=H2 n (by omega) ff1 a2
   refine⟨ff2,?_,b2⟩
   rw[hseq,a1];exact b1
  ·refine⟨hq1,fun hx=>?_⟩
   obtain⟨N1,H1⟩:=ho hx;refine⟨N1,fun n hn ff0 hs=>?_⟩
   obtain⟨ff1,a1,a2⟩:=H1 n hn ff0 hs;refine⟨ff1,?_,a2⟩
   rw[hseq,a1];obtain⟨e,f,s,t,qq⟩:=y;cases e with
   |normal=>exact absurd rfl hne
   |exit i=>rfl
   |ret=>rfl
 |cond c a b iha ihb=>
  intro ff σ tp q x h;have hcond:∀n ff0,EI pur (R n) n (.cond c a b) ff0 σ=XW (DT ff0 [c]) (EI pur (R n) n a ff0 σ) (EI pur (R n) n b ff0 σ):=fun _ _=>rfl
  have key:∀(bb:Bool) (t:Tape) (qq:Prop),DT ff [c]=some [.bool bb]→cond bb (JH pur R a ff σ t qq) (JH pur R b ff σ t qq)=some x→(x.q→qq)∧(x.q→JP pur R (.cond c a b) ff σ x.e x.ff x.σ):=by
   intro bb t qq hv hx;cases bb with
   |true=>
    obtain⟨h1,h2⟩:=iha hx;refine⟨h1,fun hq=>?_⟩
    obtain⟨N,H⟩:=h2 hq;refine⟨N,fun n hn ff0 hs=>?_⟩
    rw[hcond,G9 hs _ _ hv];exact H n hn ff0 hs
   |false=>
    obtain⟨h1,h2⟩:=ihb hx;refine⟨h1,fun hq=>?_⟩
    obtain⟨N,H⟩:=h2 hq;refine⟨N,fun n hn ff0 hs=>?_⟩
    rw[hcond,G9 hs _ _ hv];exact H n hn ff0 hs
  have h':fA c (JH pur R a) (JH pur R b) ff σ tp q=some x:=h
  revert h'
  unfold fA;refine Mc (fun r=>r=some x→(x.q→q)∧(x.q→JP pur R (.cond c a b) ff σ x.e x.ff x.σ)) (fun t hx=>?_) (fun t an hx=>?_)
  ·split at hx
   ·rename_i bb hv;exact key bb t q hv hx
   ·cases hx
  ·cases an with
   |br bb=>
    have hx':cond bb (JH pur R a ff σ t (DT ff [c]=some [.bool bb]∧q)) (JH pur R b ff σ t (DT ff [c]=some [.bool bb]∧q))=some x:=hx
    have hq:x.q→(DT ff [c]=some [.bool bb]∧q):=by
     cases bb with
     |true=>exact(iha hx').1
     |false=>exact(ihb hx').1
    exact⟨fun hq'=>(hq hq').2,fun hq'=>(key bb t _ (hq hq').1 hx').2 hq'⟩
   |_=>cases hx
 |block id c ih=>
  intro ff σ tp q x h;have h':fB id (JH pur R c ff σ tp q)=some x:=h;have hb:∀n ff0,EI pur (R n) n (.block id c) ff0 σ=Option.rec (motive:=fun _=>RX) none (fun r=>Bt.rec (motive:=fun _=>RX) (some r) (fun i=>cond (Nat.beq i id) (some (.normal,r.2)) (some r)) (some r) r.1) (EI pur (R n) n c ff0 σ):=fun _ _=>rfl
  cases hr:JH pur R c ff σ tp q with
  |none=>rw[hr] at h';cases h'
  |some y=>
   rw[hr] at h';obtain⟨hq1,ho⟩:=ih hr;obtain⟨e,f,s,t,qq⟩:=y;cases e with
   |normal=>
    cases h';refine⟨hq1,fun hq=>?_⟩
    obtain⟨N,H⟩:=ho hq;refine⟨N,fun n hn ff0 hs=>?_⟩
    obtain⟨ff1,a1,a2⟩:=H n hn ff0 hs;exact⟨ff1,by rw[hb,a1],a2⟩
   |ret=>
    cases h';refine⟨hq1,fun hq=>?_⟩
    obtain⟨N,H⟩:=ho hq;refine⟨N,fun n hn ff0 hs=>?_⟩
    obtain⟨ff1,a1,a2⟩:=H n hn ff0 hs;exact⟨ff1,by rw[hb,a1],a2⟩
   |exit i=>
    have h'':cond (Nat.beq i id) (some (⟨.normal,f,s,t,qq⟩:TO)) (some ⟨.exit i,f,s,t,qq⟩)=some x:=h';cases hi:Nat.beq i id with
    |true=>
     rw[hi] at h'';cases h'';refine⟨hq1,fun hq=>?_⟩
     obtain⟨N,H⟩:=ho hq;refine⟨N,fun n hn ff0 hs=>?_⟩
     obtain⟨ff1,a1,a2⟩:=H n hn ff0 hs;exact⟨ff1,by rw[hb,a1];dsimp only;rw[hi];rfl,a2⟩
    |false=>
     rw[hi] at h'';cases h'';refine⟨hq1,fun hq=>?_⟩
     obtain⟨N,H⟩:=ho hq;refine⟨N,fun n hn ff0 hs=>?_⟩
     obtain⟨ff1,a1,a2⟩:=H n hn ff0 hs;exact⟨ff1,by rw[hb,a1];dsimp only;rw[hi];rfl,a2⟩
 |loop keep c _=>
  intro ff σ tp q x h;have h':fq pur R keep c ff σ tp q=some x:=h
  revert h'
  unfold fq;refine Mc (fun r=>r=some x→(x.q→q)∧(x.q→JP pur R (.loop keep c) ff σ x.e x.ff x.σ)) (fun t hx=>by cases hx) (fun t an hx=>?_)
  cases an with
  |loop ls e f s=>
   cases hx;refine⟨fun hq=>hq.2,fun hq=>?_⟩
   obtain⟨N,H⟩:=hq.1;refine⟨N,fun n hn ff0 hs=>?_⟩
   refine H n hn n hn (DD ff0 keep 0) ((HZ _ _).trans fun t v hv=>?_)
   exact mask_sub hs keep 0 t v hv
  |_=>cases hx
 where
 mask_sub {ff ff0:FF} (hs:Sub ff ff0):∀(keep:List Bool) (i:Nat),Sub (DD ff keep i) (DD ff0 keep i)
  |[],i,t,v,h=>by cases h
  |b::keep,i,t,v,h=>by
   cases b with
   |false=>exact mask_sub hs keep (i+1) t v h
   |true=>
    have h':cond (Nat.beq i t) (Dm ff i) (Dm (DD ff keep (i+1)) t)=some v:=h;show cond (Nat.beq i t) (Dm ff0 i) (Dm (DD ff0 keep (i+1)) t)=some v;cases hb:Nat.beq i t with
    |true=>rw[hb] at h';exact hs i v h'
    |false=>rw[hb] at h';exact mask_sub hs keep (i+1) t v h'
end
section
variable(pur:FuncId→Bool)(R:Nat→Caller)
noncomputable def bG(e:Bt)(x:Option (PV×Sto×Prop)):Option (PV×Sto×Prop):=Bt.rec (motive:=fun _=>Option (PV×Sto×Prop)) x (fun _=>none) x e
noncomputable def runT(fn:Cy)(args:List PV)(σ:Sto)(tp:Tape):Option (PV×Sto×Prop):=
 cond (Nat.beq args.length fn.nargs&&Nat.ble args.length fn.ntmps)
  (Option.rec (motive:=fun _=>Option (PV×Sto×Prop)) none (fun o=>bG o.e (Option.rec (motive:=fun _=>Option (PV×Sto×Prop)) none (fun vs=>Option.rec (motive:=fun _=>Option (PV×Sto×Prop)) none (fun r=>some (r,o.σ,o.q)) (Fu vs)) (Gt o.ff fn.results))) (JH pur R fn.code (Ji args 0) σ tp True)) none
noncomputable def iC(fn:Cy)(args:List PV)(σ:Sto)(tp:Tape)(r:PV):Option (PV×Sto×Prop):=
 cond (Nat.beq args.length fn.nargs&&Nat.ble args.length fn.ntmps)
  (Option.rec (motive:=fun _=>Option (PV×Sto×Prop)) none (fun o=>bG o.e (some (r,o.σ,(Gt o.ff fn.results).bind Fu=some r∧o.q))) (JH pur R fn.code (Ji args 0) σ tp True)) none
noncomputable def ZX(keep:List Bool)(c:Dc)(ls:List Nat)(ff:FF)(σ:Sto)(tp:Tape):Option (FF×Sto×Prop):=
 Option.rec (motive:=fun _=>Option (FF×Sto×Prop)) none (fun o=>cond (Fg o.e) (some (MO ls (DD o.ff keep 0),o.σ,o.q)) none) (JH pur R c ff σ tp True)
noncomputable def Vj(c:Dc)(ls:List Nat)(ff:FF)(σ:Sto)(tp:Tape):Option (Bt×FF×Sto×Prop):=
 Option.rec (motive:=fun _=>Option (Bt×FF×Sto×Prop)) none (fun o=>cond (Fg o.e) none (some (o.e,MO ls o.ff,o.σ,o.q))) (JH pur R c ff σ tp True)
end
section
variable{pur:FuncId→Bool}{R:Nat→Caller}
theorem QN{ff ff0:FF}(h:Sub ff ff0):∀(rs:List (Nat×Option Nat)) (vs:List PV),Gt ff rs=some vs→Gt ff0 rs=some vs
 |[],vs,hr=>hr
 |(t,n)::rs,vs,hr=>by
  have hr':(match Dm ff t,Gt ff rs with | some v,some vs=>if Lg v n then some (v.Ag::vs) else(Lh v n).map fun r=>r::vs | _,_=>none)=some vs:=hr
  show(match Dm ff0 t,Gt ff0 rs with | some v,some vs=>if Lg v n then some (v.Ag::vs) else(Lh v n).map fun r=>r::vs | _,_=>none)=some vs
  split at hr'
  ·rename_i v ws hg hw;rw[h t v hg,QN h rs ws hw];exact hr'
  ·cases hr'
theorem aF{f:FuncId}{af:Cy}{args:List PV}{σ σ':Sto}{r:PV}{tp:Tape}{q:Prop}(hR:∀n,R (n+1) f args σ=GD pur (R n) n af args σ)(hq:q)(h:runT pur R af args σ tp=some (r,σ',q)):Ev R f args σ r σ':=by
 unfold runT at h;cases hb:(Nat.beq args.length af.nargs&&Nat.ble args.length af.ntmps) with
 |false=>rw[hb] at h;cases h
 |true=>
  rw[hb] at h;cases hx:JH pur R af.code (Ji args 0) σ tp True with
  |none=>rw[hx] at h;cases h
  |some o=>
   rw[hx] at h;obtain⟨_,hs⟩:=HV af.code hx;obtain⟨e,f1,s1,t1,q1⟩:=o;dsimp only[cond_true] at h hs
   have fin:∀{e},e=.normal∨e=.ret→JP pur R af.code (Ji args 0) σ e f1 s1→
     (Option.rec (motive:=fun _=>Option (PV×Sto×Prop)) none (fun vs=>Option.rec (motive:=fun _=>Option (PV×Sto×Prop)) none (fun r=>some (r,s1,q1)) (Fu vs)) (Gt f1 af.results))=some (r,σ',q)→Ev R f args σ r σ':=by
    intro e he hc hh;cases hv:Gt f1 af.results with
    |none=>rw[hv] at hh;cases hh
    |some vs=>
     rw[hv] at hh;dsimp only at hh;cases hp:Fu vs with
     |none=>rw[hp] at hh;cases hh
     |some p=>
      rw[hp] at hh;cases hh;obtain⟨N,H⟩:=hc;refine⟨N+1,fun n hn=>?_⟩
      obtain⟨n,rfl⟩:∃m,n=m+1:=⟨n - 1,by omega⟩
      rw[hR];obtain⟨ff1,a1,a2⟩:=H n (by omega) _ (Sub.refl _)
      unfold GD;rw[hb,a1];have hv':=QN a2 _ _ hv;rcases he with rfl | rfl
      ·dsimp only[cond_true];rw[hv'];simp[hp]
      ·dsimp only[cond_true];rw[hv'];simp[hp]
   cases e with
   |normal=>
    have h':=h
    have hq':q1:=by
     cases hv:Gt f1 af.results with
     |none=>simp only[bG,hv] at h';cases h'
     |some vs=>
      simp only[bG,hv] at h';cases hp:Fu vs with
      |none=>rw[hp] at h';cases h'
      |some p=>rw[hp] at h';cases h';exact hq
    exact fin (.inl rfl) (hs hq') h
   |exit i=>cases h
   |ret=>
    have h':=h
    have hq':q1:=by
     cases hv:Gt f1 af.results with
     |none=>simp only[bG,hv] at h';cases h'
     |some vs=>
      simp only[bG,hv] at h';cases hp:Fu vs with
      |none=>rw[hp] at h';cases h'
      |some p=>rw[hp] at h';cases h';exact hq
    exact fin (.inr rfl) (hs hq') h
theorem lI{f:FuncId}{af:Cy}{args:List PV}{σ σ':Sto}{r:PV}{tp:Tape}{q:Prop}(hR:∀n,R (n+1) f args σ=GD pur (R n) n af args σ)(hq:q)(h:iC pur R af args σ tp r=some (r,σ',q)):Ev R f args σ r σ':=by
 unfold iC at h;cases hb:(Nat.beq args.length af.nargs&&Nat.ble args.length af.ntmps) with
 |false=>rw[hb] at h;cases h
 |true=>
  rw[hb] at h;cases hx:JH pur R af.code (Ji args 0) σ tp True with
  |none=>rw[hx] at h;cases h
  |some o=>
   rw[hx] at h;obtain⟨_,hs⟩:=HV af.code hx;obtain⟨e,f1,s1,t1,q1⟩:=o;dsimp only[cond_true] at h hs
   have fin:∀{e},e=.normal∨e=.ret→JP pur R af.code (Ji args 0) σ e f1 s1→(Gt f1 af.results).bind Fu=some r→s1=σ'→Ev R f args σ r σ':=by
    rintro e he hc hh rfl
    obtain⟨vs,hv,hp⟩:=AO.1 hh;obtain⟨N,H⟩:=hc;refine⟨N+1,fun n hn=>?_⟩
    obtain⟨n,rfl⟩:∃m,n=m+1:=⟨n - 1,by omega⟩
    rw[hR];obtain⟨ff1,a1,a2⟩:=H n (by omega) _ (Sub.refl _)
    unfold GD;rw[hb,a1];have hv':=QN a2 _ _ hv;rcases he with rfl | rfl
    ·dsimp only[cond_true];rw[hv'];simp[hp]
    ·dsimp only[cond_true];rw[hv'];simp[hp]
   cases e with
   |normal=>cases h;exact fin (.inl rfl) (hs hq.2) hq.1 rfl
   |exit i=>cases h
   |ret=>cases h;exact fin (.inr rfl) (hs hq.2) hq.1 rfl
theorem RA(keep:List Bool)(body:FF→Sto→RX)(m:Nat)(ff:FF)(σ:Sto):MQ keep body (m+1) ff σ=Option.rec (motive:=fun _=>RX) none (fun r=>cond (Fg r.1) (MQ keep body m (DD r.2.1 keep 0) r.2.2) (some r)) (body ff σ):=rfl
theorem TS{keep:List Bool}{c:Dc}{ls:List Nat}{ff ffn ff':FF}{σ σn σ':Sto}{e:Bt}{tp:Tape}{q:Prop}(hq:q)(hl:IL pur R keep c ffn σn e ff' σ')(h:ZX pur R keep c ls ff σ tp=some (ffn,σn,q)):IL pur R keep c ff σ e ff' σ':=by
 unfold ZX at h;cases hx:JH pur R c ff σ tp True with
 |none=>rw[hx] at h;cases h
 |some o=>
  rw[hx] at h;obtain⟨_,hs⟩:=HV c hx;obtain⟨e1,f1,s1,t1,q1⟩:=o;cases e1 with
  |exit i=>cases h
  |ret=>cases h
  |normal=>
   cases h;obtain⟨N1,H1⟩:=hs hq;obtain⟨N2,H2⟩:=hl;refine⟨max N1 (N2+1),fun n hn m hm ff0 hs0=>?_⟩
   obtain⟨m,rfl⟩:∃m',m=m'+1:=⟨m - 1,by omega⟩
   obtain⟨ff1,a1,a2⟩:=H1 n (by omega) ff0 hs0
   obtain⟨ff2,b1,b2⟩:=H2 n (by omega) m (by omega) (DD ff1 keep 0) ((HZ _ _).trans (HV.mask_sub a2 keep 0))
   refine⟨ff2,?_,b2⟩
   rw[RA,a1];exact b1
theorem Ro{keep:List Bool}{c:Dc}{ls:List Nat}{ff ff':FF}{σ σ':Sto}{e:Bt}{tp:Tape}{q:Prop}(hq:q)(h:Vj pur R c ls ff σ tp=some (e,ff',σ',q)):IL pur R keep c ff σ e ff' σ':=by
 unfold Vj at h;cases hx:JH pur R c ff σ tp True with
 |none=>rw[hx] at h;cases h
 |some o=>
  rw[hx] at h;obtain⟨_,hs⟩:=HV c hx;obtain⟨e1,f1,s1,t1,q1⟩:=o
  have key:Fg e1=false→(e1,MO ls f1,s1,q1)=(e,ff',σ',q)→IL pur R keep c ff σ e ff' σ':=by
   intro hn0 he;cases he;obtain⟨N1,H1⟩:=hs hq;refine⟨N1+1,fun n hn m hm ff0 hs0=>?_⟩
   obtain⟨m,rfl⟩:∃m',m=m'+1:=⟨m - 1,by omega⟩
   obtain⟨ff1,a1,a2⟩:=H1 n (by omega) ff0 hs0
   refine⟨ff1,?_,(HZ _ _).trans a2⟩
   rw[RA,a1];show cond (Fg _) _ _=_;rw[hn0];rfl
  cases e1 with
  |normal=>cases h
  |exit i=>exact key rfl (Option.some.inj h)
  |ret=>exact key rfl (Option.some.inj h)
theorem ji{k:PK}{vs:List PV}{σ:Sto}{rs:List (Option PV)}(h:AJ k vs=some rs):EM pur R (.p k) vs σ rs σ:=⟨0,fun _ _=>by simp only[sem,h,Ay]⟩
theorem um{k:RK}{vs:List PV}{σ:Sto}{rs:List (Option PV)}(h:BR k vs σ=some rs):EM pur R (.r k) vs σ rs σ:=⟨0,fun _ _=>by simp only[sem,h,Ay]⟩
theorem uo{f:FuncId}{vs zs:List PV}{σ s:Sto}{r r':PV}(h:Ev R f zs [] r s)(hv:vs.map PV.Ag=zs)(hf:(vs.all PV.free&&vs.all PV.flat)=true)(hr:r.flat=true)(hd:r.Ag=r'):EM pur R (.c f) vs σ [some r'] σ:=by
 obtain⟨N,H⟩:=h;exact⟨N,fun n hn=>by simp only[sem,hf,if_true,hv,H n hn,Dn,hr,hd]⟩
theorem rA{f:FuncId}{vs zs:List PV}{σ σ':Sto}{r r':PV}(h:Ev R f zs σ r σ')(hp:pur f=false)(hv:vs.map PV.Ag=zs)(hf:vs.all PV.free=true)(hd:r.Ag=r'):EM pur R (.w (.call f)) vs σ [some r'] σ':=by
 obtain⟨N,H⟩:=h;refine⟨N,fun n hn=>?_⟩
 show Cq pur (R n) (.call f) vs σ=_;unfold Cq;simp only[hf,if_true,hp,Bool.false_eq_true,if_false,hv,H n hn,Ay,hd]
theorem WV{f:FuncId}{fs cs vs zs:List PV}{σ σ':Sto}{r r':PV}(h:Ev R f zs σ r σ')(hp:pur f=false)(hv:(fs++vs++cs).map PV.Ag=zs)(hf:vs.all PV.free=true)(hd:r.Ag=r'):EM pur R (.w .calld) (.func f fs cs::vs) σ [some r'] σ':=by
 obtain⟨N,H⟩:=h;refine⟨N,fun n hn=>?_⟩
 show Cq pur (R n) .calld (.func f fs cs::vs) σ=_;unfold Cq;simp only[hf,if_true,hp,Bool.false_eq_true,if_false,hv,H n hn,Ay,hd]
end
end Go.Abs

namespace Go.Abs
open Go.RowKit
section
variable{P:Program}{pur:FuncId→Bool}{call:Caller}{fi:FI}{cx:Cx}{N n:Nat}{ff:FF}{σ:Sto}{Q Q':Bt→FF→Sto→Prop}
def dZ(cx:Cx)(N:Nat)(a:Act)(w:World)(ff:FF)(σ:Sto):Prop:=∃A,Rel N ff A∧Sim cx a w A σ
def HT(P:Program)(cx:Cx)(N n:Nat)(c:Code)(ff:FF)(σ:Sto)(Q:Bt→FF→Sto→Prop):Prop:=
 ∀(a:Act) (w:World),dZ cx N a w ff σ→∀(K:Exit→Act→World→Prop),(∀e a' w' ff' σ',dZ cx N a' w' ff' σ'→Q e ff' σ'→K e.ex a' w')→c.wpIn (FW none) n P K a w
theorem HT.mono{c:Code}(h:HT P cx N n c ff σ Q)(hq:∀e ff' σ',Q e ff' σ'→Q' e ff' σ'):HT P cx N n c ff σ Q':=
 fun a w hs K hK=>h a w hs K fun e a' w' ff' σ' h1 h2=>hK e a' w' ff' σ' h1 (hq e ff' σ' h2)
theorem HT.code(hS:EW P call)(hx:Dp cx fi)(hmo:P.follows .mixedOrders=true){c:Code}{ac:Dc}(hc:comp P pur fi c=some ac)(hok:Ei N ac=true){m:Nat}{e:Bt}{ff':FF}{σ':Sto}
  (h:EI pur call m ac ff σ=some (e,ff',σ')) (hq:Q e ff' σ'):HT P cx N n c ff σ Q:=by
 rintro a w ⟨A,hr,hs⟩ K hK
 obtain⟨A',h1,h2⟩:=O3 ac _ _ _ _ _ _ hok hr h;exact Gg (ro:=none) hS hx hmo c ac hc m _ _ _ _ _ h1 a w hs _ fun a' w' hs' _=>hK e a' w' ff' σ' ⟨A',h2,hs'⟩ hq
theorem HT.seq{x y:Code}{R:Bt→FF→Sto→Prop}(h:HT P cx N n x ff σ R)(hy:∀ff1 σ1,R .normal ff1 σ1→HT P cx N n y ff1 σ1 Q)(he:∀e ff1 σ1,e≠.normal→R e ff1 σ1→Q e ff1 σ1):HT P cx N n (.seq x y) ff σ Q:=by
 intro a w hs K hK;refine wpIn_seq (h a w hs _ fun e a' w' ff' σ' hs' hr=>?_)
 cases e with
 |normal=>exact hy ff' σ' hr a' w' hs' K hK
 |exit i=>exact hK _ a' w' ff' σ' hs' (he _ _ _ (by simp) hr)
 |ret=>exact hK _ a' w' ff' σ' hs' (he _ _ _ (by simp) hr)
theorem HT.block{id:Nat}{c:Code}{R:Bt→FF→Sto→Prop}(h:HT P cx N n c ff σ R)(h1:∀ff1 σ1,R (.exit id) ff1 σ1→Q .normal ff1 σ1)(h2:∀e ff1 σ1,e≠.exit id→R e ff1 σ1→Q e ff1 σ1):HT P cx N n (.block id c) ff σ Q:=by
 intro a w hs K hK;refine wpIn_block (h a w hs _ fun e a' w' ff' σ' hs' hr=>?_)
 cases e with
 |normal=>exact hK .normal a' w' ff' σ' hs' (h2 _ _ _ (by simp) hr)
 |ret=>exact hK .ret a' w' ff' σ' hs' (h2 _ _ _ (by simp) hr)
 |exit i=>
  by_cases hi:i=id
  ·subst hi;have:=hK .normal a' w' ff' σ' hs' (h1 _ _ hr);simpa [Exit.inBlock,Bt.ex] using this
  ·have:=hK (.exit i) a' w' ff' σ' hs' (h2 _ _ _ (by simpa using hi) hr)
   simpa [Exit.inBlock,Bt.ex,hi] using this
theorem HT.cond(hx:Dp cx fi){c:Operand}{arg:Ct}(hc:EK fi c=some arg){b:Bool}(hv:DT ff [arg]=some [.bool b]){x y:Code}(h:HT P cx N n (if b then x else y) ff σ Q):HT P cx N n (.cond c x y) ff σ Q:=by
 rintro a w hs K hK
 obtain⟨A,hr,G,hi⟩:=hs;have he:=I5 hr _ _ hv;have hb:=(Ba hi hx.kd hc he rfl).Ht;exact wpIn_cond hb (h a w ⟨A,hr,G,hi⟩ K hK)
theorem HT.loop{c:Code}(J:Nat→FF→Sto→Prop){m:Nat}(h0:J m ff σ)(h:∀m ff σ,J m ff σ→HT P cx N n c ff σ fun e ff1 σ1=>(e=.normal∧∃k,k<m∧J k ff1 σ1)∨(e≠.normal∧Q e ff1 σ1)):HT P cx N n (.loop c) ff σ Q:=by
 intro a w hs K hK
 let T:Act→World→Nat→Prop:=fun a w k=>∃ff σ,dZ cx N a w ff σ∧J k ff σ
 classical
 let μ:Act→World→Nat:=fun a w=>if hex:∃k,T a w k then(least hex).choose else 0
 refine wpIn_loop (fun a1 w=>∃k,T a1 w k) μ ⟨m,ff,σ,hs,h0⟩ ?_
 rintro a1 w1 hI
 have hμ:μ a1 w1=(least hI).choose:=dif_pos hI;obtain⟨ff1,σ1,hs1,hj⟩:=(least hI).choose_spec.1;rw[←hμ] at hj;refine h _ ff1 σ1 hj a1 w1 hs1 _ fun e a' w' ff' σ' hs' hq=>?_
 rcases hq with⟨rfl,k,hk,hj'⟩ | ⟨hne,hq⟩
 ·have hT:T a' w' k:=⟨ff',σ',hs',hj'⟩;have hI':∃k,T a' w' k:=⟨k,hT⟩;have hμ':μ a' w'=(least hI').choose:=dif_pos hI';have:(least hI').choose≤k:=(least hI').choose_spec.2 k hT;exact⟨hI',by omega⟩
 ·cases e with
  |normal=>exact absurd rfl hne
  |exit i=>exact hK _ a' w' ff' σ' hs' hq
  |ret=>exact hK _ a' w' ff' σ' hs' hq
theorem HT.next(hS:EW P call)(hx:Dp cx fi){id:Nat}{ops:Array Oper}{az:List AOp}{lo:List (Nat×Nat)}(hc:FM P pur fi id ops false=some (az,lo))(hok:az.all (Q6 N)=true)
  {o:Oper} (ho:ops[0]?=some o) {s d:Nat} (hop:o.op=.next (.tmp s) false) (hod:o.dst=some d) (hg0:o.guard=none) (hd:CJ fi d=true) (hsk:(fi.kind s).val=true) (hsn:s<fi.nt) (hdN:d<N)
  {i0 mid since:Nat} {seen:List Nat} {kd:KD} {z:PV} {ks:List Kx} {vs:List PV} (hg:Dm ff s=some (.ref i0 0)) (hit:FC σ[i0]?=some (mid,since,seen)) (hm:mapOf σ[mid]?=some (kd,z,ks,vs)) (hn:ks.length=since)
  (hvs:∀v∈vs,(v.flat||v.EF)=true)
  (h0:Fe since seen=[]→∃ff1 σ1,MI pur call (az.drop 1) ((d,some (.tuple [.bool false]))::ff) σ=some (.normal,ff1,σ1)∧Q .normal ff1 σ1)
  (h1:∀j,j∈Fe since seen→∀k v,ks[j]?=some k→vs[j]?=some v→∃ff1 σ1,MI pur call (az.drop 1) ((d,some (.tuple [.bool true,k.pv,v.Ag]))::ff) (σ.set i0 [.itr mid since (seen++[j])])=some (.normal,ff1,σ1)∧Q .normal ff1 σ1) :
  HT P cx N n (.region id ops false) ff σ Q:=by
 rintro a w ⟨A,hr,G,hi⟩ K hK
 unfold FM at hc
 split at hc
 case h_2=>cases hc
 rename_i as' hl;simp only[Bool.false_eq_true,if_false] at hc;cases hc;obtain⟨hlen,hspec⟩:=JO _ _ _ hl;have hlen':az.length=ops.size:=by simpa using hlen
 have hoks:∀(i:Nat) (o:Oper) (ao:AOp),ops[i]?=some o→az[i]?=some ao→mV P pur fi ops o ao:=fun i o ao ho ha=>hspec i o ao (by rw[Aw];exact ho) ha
 have hpos:0<ops.size:=(Bd.1 ho).1;refine wpIn_region ?_
 have hrange:List.range ops.size=0::List.range' 1 (ops.size - 1):=by
  rw[DU,show ops.size=(ops.size - 1)+1 from by omega,Eo]
  simp
 rw[hrange,wpOpsIn_cons];unfold wpOpIn;rw[ho];dsimp only;have hw:Region.wanted o (yielded ops a.tmps)=true:=by simp[Region.wanted,hg0]
 rw[if_pos hw];have hgA:A.get s=some (.ref i0 0):=hr.get s _ hg;have hsv:(cx.kd s).val=true:=by rw[hx.kd];exact hsk
 have hval:Bu G.I G.bl w (a.eval (.tmp s)) (.ref i0 0):=((BL hsv rfl).1 (hi.slot s _ hgA)).1
 have rest:∀(p:PV) (v:Value) (w':World) (σ2:Sto),Bu G.I G.bl w' v p→p.free=true→(∀tag,Eb G w' tag v p)→Inv cx G a w' A σ2→(∃ff1 σ1,MI pur call (az.drop 1) ((d,some p)::ff) σ2=some (.normal,ff1,σ1)∧Q .normal ff1 σ1)→
   (execOp a.eval o).run P w=.ok (.value v) w'→o.wpIn (FW none) n P a w (wpOpsIn (FW none) n P ops K (List.range' 1 (ops.size - 1))) K:=by
  rintro p v w' σ2 hrep hfree hown hi2 ⟨ff1,σ1,hrun,hq⟩ hex
  refine Q5 (by simp[hop]) hex ?_
  rw[hod];have hput:=hi2.JK (Ext.refl _ _ _) hi2.base rfl (some d) (DC hx.kd hx.nt (d:=some d) hd) hfree hrep (fun _ _=>hown _)
  have hrel:Rel N ((d,some p)::ff) (GA A (some d) p):=by
   have:=NB (N:=N) [d] [some p] hr (by simpa using hdN)
   exact this
  obtain⟨_,A',e1,e2⟩:=Q3 (az.drop 1) hrel (by
   rw[Ao] at hok ⊢;exact fun x hx=>hok x (List.mem_of_mem_drop hx)) hrun
  exact TN (ro:=none) (n:=n) hS hx hlen' hoks (S:=fun _=>False) (fun _ h=>h.elim) (a0:=a) (A':=A') (σ':=σ1) (fun a' w' hs' _=>hK .normal a' w' ff1 σ1 ⟨A',e2,hs'⟩ hq) (ops.size - 1) 1 (by omega) _ σ2 e1 _ w' ⟨G,hput⟩ (fun _ h=>h.elim)
 rcases WY (P:=P) hi hit hm hn hval o.type with⟨hl0,hrun⟩ | ⟨j,hj,w',k,p,c,hk,hp,hrun,hi',hrep⟩
 ·exact rest (.tuple [.bool false]) (.tuple #[.bool false]) w σ (.tuple rfl fun i p hp=>by
   match i with
   |0=>simp at hp;subst hp;exact .inl (.inl (.bool false))
   |n+1=>simp at hp) rfl (fun _=>trivial) hi (h0 hl0) (by simp[execOp,hop,hrun])
 ·refine rest (.tuple [.bool true,k.pv,p.Ag]) (.tuple #[.bool true,k.val,c]) w' _ (.tuple rfl fun i q hq=>?_) rfl (fun _=>trivial) hi' (h1 j hj k p hk hp) (by simp[execOp,hop,hrun])
  match i with
  |0=>simp at hq;subst hq;exact .inl (.inl (.bool true))
  |1=>simp at hq;subst hq;exact .inl (.inl (YS _ _ _))
  |2=>simp at hq;subst hq;exact .inl (Nz hrep (hvs p (AA hp)))
  |n+3=>simp at hq
end
end Go.Abs

namespace Go.Abs
open Go.RowKit
def Dead(σ1 σ':Sto):Prop:=σ1.length=σ'.length∧∀(id:Nat) (cs:List PV),σ'[id]?=some cs→σ1[id]?=some cs∨cs=[.dead]
theorem Dead.refl(σ:Sto):Dead σ σ:=⟨rfl,fun _ _ h=>.inl h⟩
section
variable{P:Program}{pur:FuncId→Bool}{call:Caller}{fi:FI}{σ σ':Sto}
theorem HT.fn{f:FuncId}{fn:Func}{af:Cy}{c:Code}{args:List PV}{r:PV}(hfn:P.funcs[f]?=some fn)(hname:(fn.name == "runtime.NumGoroutine")=false)(hbody:fn.body=some c)
  (hcf:Gf P pur fi fn=some af) (hown:∀p∈args,p.Ag=p) (hl:args.length=af.nargs∧args.length≤af.ntmps)
  (h:∀cx n,Dp cx fi→HT P cx (af.ntmps+af.extra) n c (Ji args 0) σ fun e ff1 σ1=>(e=.normal∨e=.ret)∧∃ps,Gt ff1 af.results=some ps∧Fu ps=some r∧Dead σ1 σ'):Jp P f args σ r σ':=by
 unfold Gf at hcf;rw[hbody] at hcf;dsimp only at hcf
 split at hcf
 ·rename_i ac rs hac hrs
  split at hcf
  ·cases hcf
  ·rename_i hcc;cases hcf;simp only[not_or,ne_eq,Classical.not_not,Bool.not_eq_false] at hcc;obtain⟨hnt,hok,hvals⟩:=hcc;refine⟨⟨fn,hfn,hname,by rw[hbody];rfl⟩,fun m vs w G K hargs hpre=>?_⟩
   obtain⟨hl1,hl2⟩:=hl;dsimp only at hl1 hl2 h;have hval:∀t,t<args.length→(fi.kind t).val=true:=fun t ht=>H8 (Ao.1 hvals t (Bg.2 (by omega)))
   have hinit:=RF hok hpre hargs hown (by omega) hval fi.ps.length
   have hcx:=vz hok K G w;refine callsIn_of_wp hfn hbody trivial ?_
   have hrel:Rel (fn.ntmps+fi.ps.length) (Ji args 0) (args.map some++List.replicate (fn.ntmps+fi.ps.length - args.length) none):=by
    refine⟨by simp;omega,fun t v hv=>?_⟩
    obtain⟨_,hv⟩:=OV args 0 t v hv;rw[Nat.sub_zero] at hv;have hlt:=(Ab.1 hv).1;unfold Frm.get;rw[Ae (by simpa using hlt),Af,hv];rfl
   rw[←hnt] at hrel ⊢;rw[←hnt] at h;refine h _ _ hcx _ w ⟨_,hrel,G,hinit⟩ _ ?_
   rintro e a' w' ff' σ1 ⟨A',hr',G',hi'⟩ ⟨he,ps,hps,hpk,hd1,hd2⟩
   obtain⟨v,hv,hrep⟩:=Kk (P:=P) hi' hcx hrs (QO hr' _ _ hps) hpk;have hb:=hi'.base
   have haft:Aft K G w σ' G' w':=by
    refine⟨hb.keep,hb.same,hb.sub,hb.new,hb.lt,hb.own,hb.grow,hb.bl,hb.os,hb.tape,hb.output,fun id cs hc=>?_,by rw[←hd1];exact hi'.len,fun i g x hx=>by rw[←hd1];exact hi'.abl i g x hx⟩
    rcases hd2 id cs hc with h1 | rfl
    ·exact hi'.obj id cs h1
    ·have hlt:=(Ab.1 hc).1;obtain⟨b,hb,_⟩:=hi'.obj id _ (Ad (by omega))
     exact⟨b,hb,.inr (.inr (.inl rfl))⟩
   rcases he with rfl | rfl
   ·exact⟨hi'.defers,v,hv,v,G',rfl,hrep,haft⟩
   ·exact⟨hi'.defers,v,hv,v,G',rfl,hrep,haft⟩
 ·cases hcf
end
end Go.Abs

namespace Go.Abs
noncomputable section
open Go.RowKit
section
variable{P:Program}{pur:FuncId→Bool}{R:Nat→Caller}{fi:FI}{cx:Cx}{N n:Nat}{ff ff0 ff':FF}{σ σ':Sto}{Q:Bt→FF→Sto→Prop}
theorem HT.ev(hS:∀n,EW P (R n))(hx:Dp cx fi)(hmo:P.follows .mixedOrders=true){c:Code}{ac:Dc}(hc:comp P pur fi c=some ac)(hok:Ei N ac=true){e:Bt}(h:JP pur R ac ff σ e ff' σ')(hs:Sub ff ff0)(hq:∀ff1,Sub ff' ff1→Q e ff1 σ'):HT P cx N n c ff0 σ Q:=by
 obtain⟨M,H⟩:=h;obtain⟨ff1,h1,h2⟩:=H M (Be _) ff0 hs;exact HT.code (hS M) hx hmo hc hok h1 (hq ff1 h2)
theorem HT.tape(hS:∀n,EW P (R n))(hx:Dp cx fi)(hmo:P.follows .mixedOrders=true){c:Code}{ac:Dc}(hc:comp P pur fi c=some ac)(hok:Ei N ac=true){tp:Tape}{x:TO}(h:JH pur R ac ff σ tp True=some x)(hxq:x.q)(hs:Sub ff ff0)(hq:∀ff1,Sub x.ff ff1→Q x.e ff1 x.σ):HT P cx N n c ff0 σ Q:=
 HT.ev hS hx hmo hc hok ((HV ac h).2 hxq) hs hq
end
structure Stq(pur:FuncId→Bool)(R:Nat→Caller) where
 g:Nat
 k:AK
 vs:List PV
 σ:Sto
 rs:List (Option PV)
 σ':Sto
 pf:EM pur R k vs σ rs σ'
def wE{pur:FuncId→Bool}{R:Nat→Caller}(l:List (Stq pur R)):Tape:=List.rec (motive:=fun _=>Tape) [] (fun s _ ih=>(s.g,.res s.rs (some s.σ'))::ih) l
def qQ{pur:FuncId→Bool}{R:Nat→Caller}(l:List (Stq pur R)):Prop→Prop:=List.rec (motive:=fun _=>Prop→Prop) (fun x=>x) (fun s _ ih x=>ih (EM pur R s.k s.vs s.σ s.rs s.σ'∧x)) l
theorem qY{pur:FuncId→Bool}{R:Nat→Caller}:∀(l:List (Stq pur R)) {x:Prop},x→qQ l x
 |[],_,h=>h
 |s::l,_,h=>qY l ⟨s.pf,h⟩
section
variable{P:Program}{pur:FuncId→Bool}{R:Nat→Caller}{fi:FI}{cx:Cx}{N n:Nat}{ff ff0 ff':FF}{σ σ':Sto}{Q:Bt→FF→Sto→Prop}
def sq(g:Nat){k:AK}{vs:List PV}{rs:List (Option PV)}(h:∀n,sem pur (R n) k vs σ=some (rs,σ')):Stq pur R:=⟨g,k,vs,σ,rs,σ',0,fun n _=>h n⟩
theorem HT.pk(hS:∀n,EW P (R n))(hx:Dp cx fi)(hmo:P.follows .mixedOrders=true){c:Code}{ac:Dc}(hc:comp P pur fi c=some ac)(hok:Ei N ac=true)(ls:List Nat)(l:List (Stq pur R)){e:Bt}(h:((JH pur R ac ff σ (wE l) True).map fun x=>(x.e,MO ls x.ff,x.σ,x.q))=some (e,ff',σ',qQ l True))(hs:Sub ff ff0)(hq:∀ff1,Sub ff' ff1→Q e ff1 σ'):HT P cx N n c ff0 σ Q:=by
 obtain⟨x,hx1,hx2⟩:=Ac.1 h;have h4:x.q=qQ l True:=congrArg (fun y=>y.2.2.2) hx2
 have h1:x.e=e:=congrArg (fun y=>y.1) hx2
 have h2:MO ls x.ff=ff':=congrArg (fun y=>y.2.1) hx2
 have h3:x.σ=σ':=congrArg (fun y=>y.2.2.1) hx2
 subst h1 h2 h3;exact HT.tape hS hx hmo hc hok hx1 (h4▸qY l trivial) hs fun ff1 h1=>hq ff1 ((HZ ls x.ff).trans h1)
end
def _root_.Go.Code.s1:Code→Code | .seq a _=>a | c=>c
def _root_.Go.Code.s2:Code→Code | .seq _ b=>b | c=>c
def _root_.Go.Code.b1:Code→Code | .block _ c=>c | c=>c
def _root_.Go.Code.l1:Code→Code | .loop c=>c | c=>c
def _root_.Go.Code.k1:Code→Code | .cond _ a _=>a | c=>c
end
end Go.Abs

namespace Go.Proofs
open Go.Shelf
def Tryz.Xm:Go.Shelf.Ren:=⟨fun | 189=>15 | 125=>39 | 257=>38 | 128=>59 | 129=>60 | 294=>50 | 295=>51 | 296=>52 | 297=>53 | 298=>54 | 299=>55 | 216=>56 | 300=>57 | 301=>58 | 328=>74 | 329=>75 | 330=>76 | 331=>77 | 332=>78 | 215=>79 | 343=>111 | n=>n,fun | 28=>36 | 3=>3 | 46=>85 | 0=>0 | 51=>116 | 53=>73 | 4=>4 | 183=>108 | 182=>107 | 131=>113 | 5=>5 | 9=>9 | 218=>132 | 222=>136 | 228=>195 | 229=>196 | n=>n,fun | n=>n⟩
theorem Tryz.Cu:Go.Proofs.Lays.n189 Tryz.prog Tryz.Xm:={
 mixed:=by kernel_rfl
 f125:=Tryz.func39.trans (congrArg some (by kernel_rfl))
 f128:=Tryz.func59.trans (congrArg some (by kernel_rfl))
 f129:=Tryz.func60.trans (congrArg some (by kernel_rfl))
 f189:=Tryz.func15.trans (congrArg some (by kernel_rfl))
 f215:=Tryz.func79.trans (congrArg some (by kernel_rfl))
 f216:=Tryz.func56.trans (congrArg some (by kernel_rfl))
 f257:=Tryz.func38.trans (congrArg some (by kernel_rfl))
 f294:=Tryz.func50.trans (congrArg some (by kernel_rfl))
 f295:=Tryz.func51.trans (congrArg some (by kernel_rfl))
 f296:=Tryz.func52.trans (congrArg some (by kernel_rfl))
 f297:=Tryz.func53.trans (congrArg some (by kernel_rfl))
 f298:=Tryz.func54.trans (congrArg some (by kernel_rfl))
 f299:=Tryz.func55.trans (congrArg some (by kernel_rfl))
 f300:=Tryz.func57.trans (congrArg some (by kernel_rfl))
 f301:=Tryz.func58.trans (congrArg some (by kernel_rfl))
 f328:=Tryz.func74.trans (congrArg some (by kernel_rfl))
 f329:=Tryz.func75.trans (congrArg some (by kernel_rfl))
 f330:=Tryz.func76.trans (congrArg some (by kernel_rfl))
 f331:=Tryz.func77.trans (congrArg some (by kernel_rfl))
 f332:=Tryz.func78.trans (congrArg some (by kernel_rfl))
 f343:=Tryz.func111.trans (congrArg some (by kernel_rfl))
 t0:=Tryz.underlying0
 a0:=Tryz.isAgg0
 z0:=Tryz.sizeOf0
 v0:=Tryz.zeroValue0
 t3:=Tryz.underlying3
 a3:=Tryz.isAgg3
 z3:=Tryz.sizeOf3
 v3:=Tryz.zeroValue3
 t4:=Tryz.underlying4
 a4:=Tryz.isAgg4
 z4:=Tryz.sizeOf4
 v4:=Tryz.zeroValue4
 t5:=Tryz.underlying5
 a5:=Tryz.isAgg5
 z5:=Tryz.sizeOf5
 v5:=Tryz.zeroValue5
 t9:=Tryz.underlying9
 a9:=Tryz.isAgg9
 z9:=Tryz.sizeOf9
 v9:=Tryz.zeroValue9
 t28:=Tryz.underlying36
 a28:=Tryz.isAgg36
 z28:=Tryz.sizeOf36
 v28:=Tryz.zeroValue36
 t46:=Tryz.underlying85
 a46:=Tryz.isAgg85
 z46:=Tryz.sizeOf85
 v46:=Tryz.zeroValue85
 t51:=Tryz.underlying116
 a51:=Tryz.isAgg116
 z51:=Tryz.sizeOf116
 v51:=Tryz.zeroValue116
 t53:=Tryz.underlying73
 a53:=Tryz.isAgg73
 z53:=Tryz.sizeOf73
 v53:=Tryz.zeroValue73
 t131:=Tryz.underlying113
 a131:=Tryz.isAgg113
 z131:=Tryz.sizeOf113
 v131:=Tryz.zeroValue113
 t182:=Tryz.underlying107
 a182:=Tryz.isAgg107
 z182:=Tryz.sizeOf107
 v182:=Tryz.zeroValue107
 t183:=Tryz.underlying108
 a183:=Tryz.isAgg108
 z183:=Tryz.sizeOf108
 v183:=Tryz.zeroValue108
 t218:=Tryz.underlying132
 a218:=Tryz.isAgg132
 z218:=Tryz.sizeOf132
 v218:=Tryz.zeroValue132
 t222:=Tryz.underlying136
 a222:=Tryz.isAgg136
 z222:=Tryz.sizeOf136
 v222:=Tryz.zeroValue136
 t228:=Tryz.underlying195
 a228:=Tryz.isAgg195
 z228:=Tryz.sizeOf195
 v228:=Tryz.zeroValue195
 t229:=Tryz.underlying196
 a229:=Tryz.isAgg196
 z229:=Tryz.sizeOf196
 v229:=Tryz.zeroValue196 }
end Go.Proofs

namespace Go.Abs.Z
open Go.Proofs Go.RowKit Go.Shelf Go.Sort
set_option linter.unusedVariables false
def YU(x:Int):List Int→List Int
 |[]=>[x]
 |y::l=>if x≤y then x::y::l else y::YU x l
def Jq:List Int→List Int
 |[]=>[]
 |x::l=>YU x (Jq l)
theorem OQ(x:Int):∀l,(YU x l).Perm (x::l)
 |[]=>.refl _
 |y::l=>by
  unfold YU;split
  ·exact .refl _
  ·exact((OQ x l).cons y).trans (.swap ..)
theorem GN:∀l,(Jq l).Perm l
 |[]=>.refl _
 |x::l=>(OQ x _).trans ((GN l).cons x)
theorem aB(x:Int):∀{l:List Int},l.Pairwise (·≤·)→(YU x l).Pairwise (·≤·)
 |[],_=>by simp[YU]
 |y::l,h=>by
  unfold YU;split
  ·rename_i hxy;refine Et.2 ⟨fun z hz=>?_,h⟩
   rcases Av.1 hz with rfl | hz
   ·exact hxy
   ·exact Int.le_trans hxy ((Et.1 h).1 z hz)
  ·rename_i hxy;refine Et.2 ⟨fun z hz=>?_,aB x (Et.1 h).2⟩
   rcases Av.1 ((OQ x l).mem_iff.1 hz) with rfl | hz
   ·omega
   ·exact(Et.1 h).1 z hz
theorem Mg:∀l:List Int,(Jq l).Pairwise (·≤·)
 |[]=>.nil
 |x::l=>aB x (Mg l)
theorem ru{l k:List Int}(h:l.Perm k)(hl:l.Pairwise (·≤·))(hk:k.Pairwise (·≤·)):l=k:=
 List.Perm.eq_of_pairwise (le:=(·≤·)) (fun a b _ _ h1 h2=>Int.le_antisymm h1 h2) hl hk h
theorem nC(l:List Int):(l.mergeSort fun x y=>decide (x≤y))=Jq l:=by
 refine ru ((List.mergeSort_perm _ _).trans (GN l).symm) ?_ (Mg l)
 refine(List.pairwise_mergeSort (le:=fun x y=>decide (x≤y)) (fun a b c h1 h2=>?_) (fun a b=>?_) l).imp fun {a b} h=>by simpa using h
 ·simp only[decide_eq_true_eq] at *;omega
 ·simp only[Df,decide_eq_true_eq];omega
def OP:List PV→Option (List Int)
 |[]=>some []
 |v::l=>match v,OP l with
  |.int .i64 n,some r=>some (n::r)
  |_,_=>none
theorem Mt:∀{l:List PV} {zs:List Int},OP l=some zs→l=zs.map (PV.int .i64)
 |[],zs,h=>by cases h;rfl
 |v::l,zs,h=>by
  simp only[OP] at h
  split at h
  ·rename_i hr;cases h;rw[Mt hr];rfl
  ·cases h
def TD(es:List PV)(off len:Nat):Option (List PV):=match OP ((es.drop off).take len) with
 |some zs=>if zs.length=len∧len<9000000000 then some (es.take off++(Jq zs).map (PV.int .i64)++es.drop (off+len)) else none
 |none=>none
def KY:GM:=fun _ xs σ=>match xs with
 |[.nils]=>some (.tuple [],σ)
 |[.empt]=>some (.tuple [],σ)
 |[.arr id gen off len size]=>if size=1 then match σ[id]? with
  |some cs=>match Dq cs gen 1 with
   |some es=>match TD es off len with
    |some es'=>some (.tuple [],σ.set id [.arrv gen 1 es'])
    |none=>none
   |none=>none
  |none=>none
  else none
 |_=>none
theorem JS{I:Imm}{bl:Bl}{w:World}{vs:Array Value}{p:PV}(h:FJ I bl w vs.toList [p]):∃v,vs=#[v]∧Bu I bl w v p:=by
 obtain⟨v,h1,h2⟩:=h.2 0 p rfl;have hl:=h.1
 match vs,hl,h1 with
 |⟨[a]⟩,_,h1=>
  simp at h1;subst h1;exact⟨a,rfl,h2⟩
theorem Og{G:Gh}{K:Nat→Prop}{w:World}{σ:Sto}(hpre:Pre K G w σ):Aft K G w σ G w:=
 ⟨fun _ _=>rfl,Same.refl _ _,fun _ _ h=>h,fun _ _ h=>.inl h,hpre.lt,hpre.own,Be _,Bl.le_refl _,rfl,rfl,rfl,hpre.obj,hpre.len,hpre.abl⟩
theorem ZU{K:Nat→Prop}{G:Gh}{w:World}{σ:Sto}(hpre:Pre K G w σ){id gen size:Nat}{es:List PV}(hσ:σ[id]?=some [.arrv gen size es]):L9 G w id gen size es:=by
 obtain⟨b,h1,h2⟩:=hpre.obj id _ hσ;rcases h2 with h2 | ⟨t,e,l,h,_⟩ | h | ⟨gen',size',es',h,h2⟩ | ⟨_,_,_,_,h,_⟩ | ⟨_,_,_,h,_⟩
 rotate_right
 ·cases h
 rotate_right
 ·cases h
 ·obtain⟨_,_,cs,_,_,_,h⟩:=h2;rcases h 0 _ rfl with⟨h,_⟩ | ⟨h,_⟩
  ·exact absurd h.free (by simp[PV.free])
  ·cases h
 ·cases h
 ·cases h
 ·cases h;exact h2
theorem Ua{G:Gh}{w:World}{off len base b:Nat}{es:List PV}{cs:Array Value}{elem:TypeId}{zs:List Int}(hz:(es.drop off).take len=zs.map (PV.int .i64))(hzl:zs.length=len)(hlen:off+len≤es.length)(g5:w.heap[b]?=some (.cells cs elem (0,0)))(g8:base+es.length * 1≤cs.size)
  (g9:∀(i:Nat) (e:PV),es[i]?=some e→e.cells.length=1∧∀(j:Nat) (p:PV),e.cells[j]?=some p→Bu G.I G.bl w (cs.getD (base+i * 1+j) undef) p):Holds (Value.int .i64) w b (base+off) zs.toArray:=by
 simp only[Dv] at *
 have hval:∀j,j<len→es[off+j]?=some (.int .i64 (zs.getD j 0)):=by
  intro j hj;have:=congrArg (·[j]?) hz;simp only[BQ,BN,Af,hj,if_true] at this;rw[this,Aj,Ad (by omega)]
  rfl
 intro j hj;have hj':j<len:=by simpa [hzl] using hj
 have e:=((g9 _ _ (hval j hj')).2 0 _ rfl).Db;refine⟨?_,by simp[World.frozen?,g5]⟩
 have hlt:base+off+j<cs.size:=by omega
 simp only[Nat.add_zero,←CU] at e;simp only[World.cell?,g5];rw[Ah,Az hlt] at e;rw[Az hlt];simp only[CB] at e;rw[e,Aj,Ad (by omega)]
 simp[hzl,hj']
theorem aS{K:Nat→Prop}{G:Gh}{w W:World}{σ:Sto}{id gen off len base b m:Nat}{es:List PV}{cs:Array Value}{elem:TypeId}{ys:List Int}(hpre:Pre K G w σ)(hσ:σ[id]?=some [.arrv gen 1 es])(hab:G.bl.ab id gen=some (b,base,m))(g2:∀g,gen<g→G.bl.ab id g=none)(g3:G.ω b=some (.obj id none))(g4:∀x,¬G.I b x)
  (g5:w.heap[b]?=some (.cells cs elem (0,0))) (g6:cs.size=m) (g7:0<1) (g8:base+es.length * 1≤m) (g9:∀(i:Nat) (e:PV),es[i]?=some e→e.cells.length=1∧∀(j:Nat) (p:PV),e.cells[j]?=some p→Bu G.I G.bl w (cs.getD (base+i * 1+j) undef) p)
  (hlen:off+len≤es.length) (hy:ys.length=len) (hother:∀c,c<w.heap.size→c≠b→W.heap[c]?=w.heap[c]?) (hthis:W.heap[b]?=some (.cells (putCells (Value.int .i64) (base+off) ys.toArray cs) elem (0,0))) (hsz:w.heap.size≤W.heap.size) (hos:W.os=w.os∧W.tape=w.tape∧W.output=w.output) :
  Aft K G w (σ.set id [.arrv gen 1 (es.take off++ys.map (PV.int .i64)++es.drop (off+len))]) G W:=by
 simp only[Dv] at g8 g9;have hne:∀c x,G.I c x→c≠b:=fun c x h e=>g4 x (e▸h)
 have hsame:Same G.I w W:=⟨fun c o h=>cell_of_heap (hother c (hpre.lt _ _ h) (hne _ _ h)),fun c h=>hother c (hpre.lt _ _ h) (hne _ _ h)⟩
 have hext:Ext (fun tg=>tg=.obj id none) G G w W:=⟨fun _ _ h=>h,hsame,Bl.le_refl _,fun _ _ _ _=>rfl,fun c tg h' hn=>⟨h',hother c (hpre.own _ _ h').1 (by
  rintro rfl
  rw[g3] at h';cases h';exact hn rfl),fun _ h=>h⟩⟩
 have hidl:id<σ.length:=(Ab.1 hσ).1
 refine⟨fun c h=>hother c (hpre.Klt c h) (fun e=>(hpre.own _ _ g3).2 (e▸h)),hsame,fun _ _ h=>h,fun _ _ h=>.inl h,fun c x h=>Bn (hpre.lt c x h) hsz,
  fun c tag h=>⟨Bn (hpre.own c tag h).1 hsz,(hpre.own c tag h).2⟩,hsz,Bl.le_refl _,hos.1,hos.2.1,hos.2.2,fun id' cs' h'=>?_,by rw[Bo];exact hpre.len,fun i g a h=>by rw[Bo];exact hpre.abl i g a h⟩
 rw[BO] at h'
 split at h'
 ·rename_i hid;subst hid;cases h';obtain⟨bb,hbb,_⟩:=hpre.obj id _ hσ;refine⟨bb,hbb,.inr (.inr (.inr (.inl ⟨gen,1,_,rfl,b,base,m,_,elem,hab,g2,g3,g4,hthis,by simp[putCells,g6],by omega,?_,?_⟩)))⟩
  ·simp[hy];omega
  ·intro i e he
   have hget:∀j,(putCells (Value.int .i64) (base+off) ys.toArray cs).getD j undef=if base+off≤j∧j<base+off+len∧j<cs.size then .int .i64 (ys.getD (j - (base+off)) 0) else cs.getD j undef:=by
    intro j;simp only[putCells,Ah,Array.getElem?_mapIdx,CL,hy]
    by_cases hj:j<cs.size
    ·rw[Az hj];simp only[Ay,CB];by_cases hc:base+off≤j∧j<base+off+len
     ·rw[if_pos hc,if_pos ⟨hc.1,hc.2,hj⟩,getElem!_pos _ _ (by simp[hy];omega),List.getElem_toArray,Aj,Ad (by omega)]
      rfl
     ·rw[if_neg hc,if_neg (fun h=>hc ⟨h.1,h.2.1⟩)]
    ·rw[Dx (by omega),if_neg (fun h=>hj h.2.2)]
     rfl
   simp only[Dv]
   have old:es[i]?=some e→(i<off∨off+len≤i)→e.cells.length=1∧∀(j:Nat) (p:PV),e.cells[j]?=some p→Bu G.I G.bl W ((putCells (Value.int .i64) (base+off) ys.toArray cs).getD (base+i+j) undef) p:=by
    intro he hi;refine⟨(g9 i e he).1,fun j p hp=>?_⟩
    have hj0:j=0:=by have:=(Ab.1 hp).1;have:=(g9 i e he).1;omega
    subst hj0;rw[hget,if_neg (by omega)]
    exact((g9 i e he).2 0 p hp).mono (fun _ _ h=>h) hsame (Bl.le_refl _)
   by_cases h1:i<off
   ·rw[BP,Ae (by simp;omega),BQ,if_pos h1] at he
    exact old he (.inl h1)
   by_cases h2:i<off+len
   ·rw[BP,Al (by simp;omega),Ae (by simp[hy];omega),Af] at he
    simp only[Bj,Nat.min_eq_left (show off≤es.length from by omega)] at he
    rw[Ad (by omega)] at he
    cases he;refine⟨rfl,fun j p hp=>?_⟩
    have hj0:j=0:=by have:=(Ab.1 hp).1;simp[PV.cells] at this;omega
    subst hj0;cases hp;have hi:=(show base+off≤base+i+0∧base+i+0<base+off+len∧base+i+0<cs.size from by omega)
    rw[hget,if_pos hi,Aj,Ad (by omega),CB]
    have e:ys[base+i+0 - (base+off)]'(by omega)=ys[i - off]'(by omega):=by congr 1;omega
    rw[e];exact .one (.inl (.int _ _))
   ·rw[Al (by simp[hy];omega),BN] at he
    have e:off+len+(i - (es.take off++ys.map (PV.int .i64)).length)=i:=by simp[hy];omega
    rw[e] at he;exact old he (.inr (by omega))
 ·rename_i hid;refine(hpre.obj id' cs' h').ext hext fun j e=>?_
  cases e;exact hid rfl
theorem Az4:He Tryz.prog 15:=⟨Tryz.f15,Tryz.func15,by kernel_rfl,by kernel_rfl⟩
theorem fO(p:Option Addr)(cap:Nat)(w:World):Calls Tryz.prog 15 #[.slice p 0 cap] w fun e w'=>e=.returned (.tuple #[])∧w'=w:=Any.slices_Sort_int_none Tryz.Cu p cap w
theorem Qd:FQ Tryz.prog 15 KY:=by
 intro call hSc args σ r σ' hown h;refine⟨Az4,fun n vs w G K hargs hpre=>callsIn_wide.2 ?_⟩
 have tup:∀w',Bu G.I G.bl w' (.tuple #[]) (.tuple []):=fun w'=>.tuple rfl fun i p hp=>by simp at hp
 unfold KY at h
 split at h
 ·cases h;obtain⟨v,rfl,hv⟩:=JS hargs
  have hv':v=.slice none 0 0:=by
   cases hv with
   |one h=>
    rcases h with h | h
    ·cases h;rfl
    ·cases h
  subst hv';exact(fO _ _ w).mono fun e w' ⟨h1,h2⟩=>⟨_,G,h1,tup _,by rw[h2];exact Og hpre⟩
 ·cases h;obtain⟨v,rfl,hv⟩:=JS hargs
  have hv':∃a,v=.slice (some a) 0 0:=by
   cases hv with
   |one h=>
    rcases h with h | h
    ·cases h;exact⟨_,rfl⟩
    ·cases h
  obtain⟨a,rfl⟩:=hv';exact(fO _ _ w).mono fun e w' ⟨h1,h2⟩=>⟨_,G,h1,tup _,by rw[h2];exact Og hpre⟩
 ·rename_i id gen off len size
  split at h
  case isFalse=>cases h
  rename_i hs1;subst hs1
  split at h
  case h_2=>cases h
  rename_i cs0 hσ
  split at h
  case h_2=>cases h
  rename_i es hes
  split at h
  case h_2=>cases h
  rename_i es' hsa;cases h;have hcs0:=Jm hes;subst hcs0;have hA:=ZU hpre hσ;obtain⟨v,rfl,hv⟩:=JS hargs;obtain⟨b,base,m,cap,b',o',hab,hcap,hcm,hat,rfl⟩:=hv.Gp;obtain⟨b1,base1,m1,cs,elem,g1,g2,g3,g4,g5,g6,g7,g8,g9⟩:=hA;rw[hab] at g1;cases g1;unfold TD at hsa
  split at hsa
  case h_2=>cases hsa
  rename_i zs hzs
  split at hsa
  case isFalse=>cases hsa
  rename_i hzl;cases hsa;obtain⟨hzl,hbig⟩:=hzl;have hz:=Mt hzs
  have hlen:off+len≤es.length∨len=0:=by
   have:=congrArg List.length hz;simp[hzl] at this;omega
  by_cases h0:len=0
  ·subst h0;have hz0:zs=[]:=List.eq_nil_of_length_eq_zero hzl;subst hz0
   have:σ.set id [.arrv gen 1 (es.take off++(Jq []).map (PV.int .i64)++es.drop (off+0))]=σ:=by
    have e:es.take off++(Jq []).map (PV.int .i64)++es.drop (off+0)=es:=by simp[Jq]
    rw[e];apply BH;intro i;rw[BO];split
    ·rename_i hi;subst hi;rw[if_pos (Ab.1 hσ).1,hσ]
    ·rfl
   rw[this];exact(fO _ _ w).mono fun e w' ⟨h1,h2⟩=>⟨_,G,h1,tup _,by rw[h2];exact Og hpre⟩
  have hlen:off+len≤es.length:=by omega
  obtain⟨rfl,rfl⟩:=hat (by omega)
  have hlt:b' < w.heap.size:=(hpre.own _ _ g3).1;have hH:=Ua hz hzl hlen g5 (by rw[g6];exact g8) g9
  refine(Any.slices_Sort_int Tryz.Cu b' (base+off) cap zs w hH hlt (by omega):Calls Tryz.prog 15 _ w _).mono ?_ |> fun h=>by rw[←hzl,Dv];exact h
  rintro e w' ⟨rfl,k,os,rfl⟩
  rw[nC];refine⟨_,G,rfl,tup _,aS hpre hσ hab g2 g3 g4 g5 g6 g7 g8 g9 (by rw[hzl];exact hlen) (GN zs).length_eq (fun c hc hne=>?_) ?_ (by simp[grow,putRow,mapBlock]) ⟨rfl,rfl,rfl⟩⟩
  ·rw[heap_grow_old _ _ (by simpa using hc)]
   simp only[putRow,mapBlock,Ch,Ne.symm hne,if_false];rfl
  ·rw[heap_grow_old _ _ (by simpa using hlt)]
   simp only[putRow,mapBlock,Ch,if_true,heap_ahead,g5,Ay,onCells]
 ·cases h
end Go.Abs.Z

namespace Go.Abs.Z
noncomputable section
open Go.Proofs Go.RowKit Go.Sort
set_option linter.unusedVariables false
def chain:Nat→Sto→PV→Option (List (List Int))
 |0,_,_=>none
 |n+1,σ,v=>match v with
  |.nilp=>some []
  |.ref id 0=>match σ[id]? with
   |some [p,.mref m]=>match mapOf σ[m]? with
    |some (_,_,ks,vs)=>match OP vs,chain n σ p with
     |some zs,some r=>if zs.length=ks.length then some (zs::r) else none
     |_,_=>none
    |none=>none
   |_=>none
  |_=>none
def IE:List (List Int)→Nat
 |[]=>0
 |z::r=>match z with
  |[]=>IE r+1
  |_::_=>1
def IM(n:Nat):Sto:=List.replicate n [.dead]
def iZ:GM:=fun _ xs σ=>match xs with
 |[p]=>match chain 1000 σ p with
  |some zss=>match zss.flatten with
   |[]=>some (.nils,σ++IM zss.length)
   |l=>if l.length≤Cb∧l.length<9000000000 then some (.arr (σ.length+IE zss) (l.length - 1) 0 l.length 1,σ++IM (IE zss)++[[.arrv (l.length - 1) 1 ((Jq l).map (PV.int .i64))]]++IM (zss.length - IE zss)) else none
  |none=>none
 |_=>none
theorem aC:∀(d:List (List Int)) (z:List Int) (r:List (List Int)),d.flatten=[]→z≠[]→IE (d++z::r)=d.length+1
 |[],z,r,_,hz=>by cases z with
  |nil=>exact absurd rfl hz
  |cons=>rfl
 |x::d,z,r,h,hz=>by
  simp at h;obtain⟨rfl,h⟩:=h;have:d.flatten=[]:=by simpa using h
  show IE (d++z::r)+1=_;rw[aC d z r this hz];rfl
def GQ:Caller:=fun f args σ=>if f=15 then KY (fun _ _ _=>none) args σ else none
theorem Ca:EW Tryz.prog GQ:=by
 intro f args σ r σ' hown h;unfold GQ at h
 split at h
 ·rename_i hf;subst hf;exact Qd (fun _ _ _=>none) (fun _ _ _ _ _ _ h=>by cases h) args σ r σ' hown h
 ·cases h
structure Gy(σ σ1:Sto)(out:PV)(l:List Int)(k ia:Nat):Prop where
 len:σ1.length=σ.length+k+(if l=[] then 0 else 1)
 old:∀id,id<σ.length→σ1[id]?=σ[id]?
 out:(l=[]∧out=.nils)∨(l≠[]∧out=.arr ia (l.length - 1) 0 l.length 1∧σ1[ia]?=some [.arrv (l.length - 1) 1 (l.map (PV.int .i64))]∧σ.length≤ia)
def body:Code:=Tryz.f219.body.getD .skip
def cA0:=body.s1
def cA1:=body.s2.s1
def cA2:=body.s2.s2.s1.s1
def cL0:=body.s2.s2.s1.s2.b1.l1
def cF:=body.s2.s2.s2
def cH:=cL0.s1
def cB:=cL0.s2.s1.b1
def c5:=cB.s1
def cL1:=cB.s2.b1.l1
def c4:=cL0.s2.s2
theorem qy:body=.seq cA0 (.seq cA1 (.seq (.seq cA2 (.block 0 (.loop cL0))) cF)):=by kernel_rfl
theorem vK:cL0=.seq cH (.seq (.block 1 (.seq c5 (.block 2 (.loop cL1)))) c4):=by kernel_rfl
def c6:=cL1.s1
def cK:=cL1.s2.s1
def cP:=cL1.s2.s2
theorem vJ:cL1=.seq c6 (.seq cK cP):=by kernel_rfl
def R15:Nat→Caller:=fun _=>GQ
def acO(c:Code):Dc:=(comp Tryz.prog pur Fw c).getD .skip
theorem kH:comp Tryz.prog pur Fw cH=some (acO cH):=by kernel_rfl
theorem k5:comp Tryz.prog pur Fw c5=some (acO c5):=by kernel_rfl
theorem kK:comp Tryz.prog pur Fw cK=some (acO cK):=by kernel_rfl
theorem kP:comp Tryz.prog pur Fw cP=some (acO cP):=by kernel_rfl
theorem k4:comp Tryz.prog pur Fw c4=some (acO c4):=by kernel_rfl
theorem kF:comp Tryz.prog pur Fw cF=some (acO cF):=by kernel_rfl
theorem kA0:comp Tryz.prog pur Fw cA0=some (acO cA0):=by kernel_rfl
theorem kA1:comp Tryz.prog pur Fw cA1=some (acO cA1):=by kernel_rfl
theorem kA2:comp Tryz.prog pur Fw cA2=some (acO cA2):=by kernel_rfl
theorem okA:([cH,c5,cK,cP,c4,cF,cA0,cA1,cA2].all fun c=>Ei 30 (acO c))=true:=by kernel_rfl
theorem Jw{c:Code}(h:c∈[cH,c5,cK,cP,c4,cF,cA0,cA1,cA2]):Ei 30 (acO c)=true:=Ao.1 okA c h
section
variable{cx:Cx}{n:Nat}{ff0:FF}{σ:Sto}{Q:Bt→FF→Sto→Prop}
theorem tH1{i:Nat}{out:PV}(hx:Dp cx Fw)(hs:Sub [(4,some (.ref i 0)),(3,some out)] ff0)(hq:∀ff1,Sub [(4,some (.ref i 0)),(3,some out)] ff1→Q .normal ff1 σ):HT Tryz.prog cx 30 n cH ff0 σ Q:=
 HT.pk (R:=R15) (fun _=>Ca) hx Tryz.Cu.mixed kH (Jw (by simp)) [4,3] [] (by kernel_rfl) hs hq
theorem tH0{out:PV}(hx:Dp cx Fw)(hs:Sub [(4,some .nilp),(3,some out)] ff0)(hq:∀ff1,Sub [(3,some out)] ff1→Q (.exit 0) ff1 σ):HT Tryz.prog cx 30 n cH ff0 σ Q:=
 HT.pk (R:=R15) (fun _=>Ca) hx Tryz.Cu.mixed kH (Jw (by simp)) [3] [] (by kernel_rfl) hs hq
theorem t5{i m:Nat}{out p z:PV}{d:KD}{ks:List Kx}{vs:List PV}(hx:Dp cx Fw)(h1:σ[i]?=some [p,.mref m])(h2:mapOf σ[m]?=some (d,z,ks,vs))(hs:Sub [(4,some (.ref i 0)),(3,some out)] ff0)
  (hq:∀ff1,Sub [(4,some (.ref i 0)),(3,some out),(18,some (.ref σ.length 0))] ff1→Q .normal ff1 (σ++[[.itr m ks.length []]])):HT Tryz.prog cx 30 n c5 ff0 σ Q:=
 HT.pk (R:=R15) (fun _=>Ca) hx Tryz.Cu.mixed k5 (Jw (by simp)) [4,3,18] [sq 3 (k:=.r (.ld 1 false)) (vs:=[.ref i 1]) (rs:=[some (.mref m)]) (σ:=σ) (σ':=σ) (fun n=>by simp[sem,BR,h1];exact⟨_,rfl,rfl⟩),sq 0 (k:=.w .rgM) (vs:=[.mref m]) (rs:=[some (.ref σ.length 0)]) (σ:=σ) (σ':=σ++[[.itr m ks.length []]]) (fun n=>by simp[sem,Cq,h2])] (by kernel_rfl) hs hq
theorem tK{out p it:PV}{b:Bool}(hx:Dp cx Fw)(hs:Sub [(20,some (.bool b)),(4,some p),(3,some out),(18,some it)] ff0)
  (hq:∀ff1,Sub [(4,some p),(3,some out),(18,some it)] ff1→Q (if b then .normal else .exit 2) ff1 σ):HT Tryz.prog cx 30 n cK ff0 σ Q:=by
 cases b with
 |true=>exact HT.pk (R:=R15) (fun _=>Ca) hx Tryz.Cu.mixed kK (Jw (by simp)) [4,3,18] [] (by kernel_rfl) hs hq
 |false=>exact HT.pk (R:=R15) (fun _=>Ca) hx Tryz.Cu.mixed kK (Jw (by simp)) [4,3,18] [] (by kernel_rfl) hs hq
theorem t4{i:Nat}{out p y:PV}(hx:Dp cx Fw)(h1:σ[i]?=some [p,y])(hp:p=.nilp∨∃j o,p=.ref j o)(hs:Sub [(4,some (.ref i 0)),(3,some out)] ff0)
  (hq:∀ff1,Sub [(4,some p),(3,some out)] ff1→Q .normal ff1 σ):HT Tryz.prog cx 30 n c4 ff0 σ Q:=by
 rcases hp with rfl | ⟨j,o,rfl⟩
 ·exact HT.pk (R:=R15) (fun _=>Ca) hx Tryz.Cu.mixed k4 (Jw (by simp)) [4,3] [sq 3 (k:=.r (.ld 1 false)) (vs:=[.ref i 0]) (rs:=[some .nilp]) (σ:=σ) (σ':=σ) (fun n=>by simp[sem,BR,h1];exact⟨_,rfl,rfl⟩)] (by kernel_rfl) hs hq
 ·exact HT.pk (R:=R15) (fun _=>Ca) hx Tryz.Cu.mixed k4 (Jw (by simp)) [4,3] [sq 3 (k:=.r (.ld 1 false)) (vs:=[.ref i 0]) (rs:=[some (.ref j o)]) (σ:=σ) (σ':=σ) (fun n=>by simp[sem,BR,h1];exact⟨_,rfl,rfl⟩)] (by kernel_rfl) hs hq
theorem tF{out:PV}{σ':Sto}(hx:Dp cx Fw)(ho:out=.nils∨∃i g l,out=.arr i g 0 l 1)(h1:sem pur GQ (.w (.call 15)) [out] σ=some ([some (.tuple [])],σ'))(hs:Sub [(3,some out)] ff0)
  (hq:∀ff1,Sub [(2,some out)] ff1→Q .ret ff1 σ'):HT Tryz.prog cx 30 n cF ff0 σ Q:=by
 rcases ho with rfl | ⟨i,g,l,rfl⟩
 ·exact HT.pk (R:=R15) (fun _=>Ca) hx Tryz.Cu.mixed kF (Jw (by simp)) [2] [sq 1 (k:=.w (.call 15)) (vs:=[.nils]) (rs:=[some (.tuple [])]) (σ:=σ) (σ':=σ') (fun n=>h1)] (by kernel_rfl) hs hq
 ·exact HT.pk (R:=R15) (fun _=>Ca) hx Tryz.Cu.mixed kF (Jw (by simp)) [2] [sq 1 (k:=.w (.call 15)) (vs:=[.arr i g 0 l 1]) (rs:=[some (.tuple [])]) (σ:=σ) (σ':=σ') (fun n=>h1)] (by kernel_rfl) hs hq
theorem tP{it:Nat}{out p:PV}{i g l:Nat}{x:Int}{k:PV}{σ':Sto}(hx:Dp cx Fw)(hk:(∃a b,k=.int a b)∨(∃l,k=.str l)∨∃l,k=.agg l)(ho:out=.nils∨∃i g l,out=.arr i g 0 l 1)(h1:BR .enI [.ref it 0] σ=some [some (.tuple [k,.int .i64 x])])(h2:Cq pur GQ (.Fa 1) [out,.slice true 1 [.int .i64 x]] σ=some ([some (.arr i g 0 l 1)],σ'))(hs:Sub [(4,some p),(3,some out),(18,some (.ref it 0))] ff0)
  (hq:∀ff1,Sub [(4,some p),(3,some (.arr i g 0 l 1)),(18,some (.ref it 0))] ff1→Q .normal ff1 σ'):HT Tryz.prog cx 30 n cP ff0 σ Q:=by
 rcases ho with rfl | ⟨i',g',l',rfl⟩
 ·rcases hk with⟨c,d,rfl⟩ | ⟨c,rfl⟩ | ⟨c,rfl⟩
  all_goals exact HT.pk (R:=R15) (fun _=>Ca) hx Tryz.Cu.mixed kP (Jw (by simp)) [4,3,18] [sq 0 (k:=.r .enI) (vs:=[.ref it 0]) (rs:=[some (.tuple [_,.int .i64 x])]) (σ:=σ) (σ':=σ) (fun n=>show(BR .enI [.ref it 0] σ).map _=_ from by rw[h1];rfl),sq 5 (k:=.w (.Fa 1)) (vs:=[.nils,.slice true 1 [.int .i64 x]]) (rs:=[some (.arr i g 0 l 1)]) (σ:=σ) (σ':=σ') (fun n=>h2)] (by kernel_rfl) hs hq
 ·rcases hk with⟨c,d,rfl⟩ | ⟨c,rfl⟩ | ⟨c,rfl⟩
  all_goals exact HT.pk (R:=R15) (fun _=>Ca) hx Tryz.Cu.mixed kP (Jw (by simp)) [4,3,18] [sq 0 (k:=.r .enI) (vs:=[.ref it 0]) (rs:=[some (.tuple [_,.int .i64 x])]) (σ:=σ) (σ':=σ) (fun n=>show(BR .enI [.ref it 0] σ).map _=_ from by rw[h1];rfl),sq 5 (k:=.w (.Fa 1)) (vs:=[.arr i' g' 0 l' 1,.slice true 1 [.int .i64 x]]) (rs:=[some (.arr i g 0 l 1)]) (σ:=σ) (σ':=σ') (fun n=>h2)] (by kernel_rfl) hs hq
end
def je:Array Oper:=match c6 with | .region _ ops _=>ops | _=>#[]
theorem Az8:c6=.region 6 je false:=by kernel_rfl
def cr6:=(FM Tryz.prog pur Fw 6 je false).getD ([],[])
theorem k6:FM Tryz.prog pur Fw 6 je false=some (cr6.1,cr6.2):=by kernel_rfl
theorem ok6:cr6.1.all (Q6 30)=true:=by kernel_rfl
def o6:Oper:=(je[0]?).getD default
theorem xw:je[0]?=some o6:=by kernel_rfl
theorem xu:o6.op=.next (.tmp 18) false:=by kernel_rfl
theorem wL(ff:FF)(σ:Sto):MI pur GQ (cr6.1.drop 1) ((19,some (.tuple [.bool false]))::ff) σ=some (.normal,(20,some (.bool false))::(19,some (.tuple [.bool false]))::ff,σ):=by kernel_rfl
theorem wJ(k:Kx)(z:Int)(ff:FF)(σ:Sto):MI pur GQ (cr6.1.drop 1) ((19,some (.tuple [.bool true,k.pv,.int .i64 z]))::ff) σ=some (.normal,(20,some (.bool true))::(19,some (.tuple [.bool true,k.pv,.int .i64 z]))::ff,σ):=by
 cases k<;>kernel_rfl
end
end Go.Abs.Z

namespace Go.Abs.Z
open Go.Proofs Go.RowKit Go.Sort
set_option linter.unusedVariables false
theorem TU{n j:Nat}{seen:List Nat}:j∈Fe n seen↔j<n∧j∉seen:=by simp[Fe]
theorem Xi{n j:Nat}{seen:List Nat}(h:j∈Fe n seen):(Fe n (seen++[j])).length<(Fe n seen).length:=by
 have e:Fe n (seen++[j])=(Fe n seen).filter (fun i=>i != j):=by
  unfold Fe;rw[List.filter_filter];refine List.filter_congr fun x _=>?_
  by_cases hx:x=j<;>by_cases h2:x∈seen<;>simp[hx,h2]
 rw[e];exact List.length_filter_lt_length_iff_exists.2 ⟨j,h,by simp⟩
theorem cz{n:Nat}{seen:List Nat}(h:Fe n seen=[])(hn:seen.Nodup)(hb:∀j∈seen,j<n):seen.Perm (List.range n):=by
 refine(List.perm_ext_iff_of_nodup hn List.nodup_range).2 fun a=>⟨fun ha=>Bg.2 (hb a ha),fun ha=>?_⟩
 refine Classical.byContradiction fun hc=>?_
 have:a∈Fe n seen:=TU.2 ⟨Bg.1 ha,hc⟩;rw[h] at this;cases this
def ats(zs:List Int)(seen:List Nat):List Int:=seen.map fun j=>zs.getD j 0
theorem dQ(zs:List Int):ats zs (List.range zs.length)=zs:=by
 apply BH;intro i;unfold ats;rw[Af];by_cases h:i<zs.length
 ·rw[Ck h];simp[Aj,h]
 ·rw[AC (by simpa using h),AC (by omega)];rfl
theorem Gy.put{σ σ1:Sto}{out:PV}{l:List Int}{k ia it:Nat}{cs:List PV}(h:Gy σ σ1 out l k ia)(hi:σ.length≤it)(hne:l≠[]→it≠ia):Gy σ (σ1.set it cs) out l k ia:=by
 refine⟨by rw[Bo];exact h.len,fun id hid=>by rw[Ap (by omega)];exact h.old id hid,?_⟩
 rcases h.out with h1 | ⟨h1,h2,h3,h4⟩
 ·exact .inl h1
 ·exact .inr ⟨h1,h2,by rw[Ap (hne h1)];exact h3,h4⟩
theorem Gy.app{σ σ1:Sto}{out:PV}{l:List Int}{k ia:Nat}(h:Gy σ σ1 out l k ia)(hia:l=[]→ia=σ1.length)(hl:l.length+1≤Cb)(x:Int):
  ∃σ2,Cq pur GQ (.Fa 1) [out,.slice true 1 [.int .i64 x]] σ1=some ([some (.arr ia l.length 0 (l.length+1) 1)],σ2)∧Gy σ σ2 (.arr ia l.length 0 (l.length+1) 1) (l++[x]) k ia∧∀id,id<σ1.length→id≠ia→σ2[id]?=σ1[id]?:=by
 rcases h.out with⟨rfl,rfl⟩ | ⟨h1,rfl,h3,h4⟩
 ·have hia:=hia rfl;subst hia;have hlen:σ1.length=σ.length+k:=by simpa using h.len
  refine⟨σ1++[[.arrv 0 1 [.int .i64 x]]],?_,⟨by simp[hlen],fun id hid=>?_,.inr ⟨by simp,rfl,by simp,by omega⟩⟩,fun id hid _=>by rw[Ae hid]⟩
  ·have h1:[PV.int .i64 x].length≤Cb∧[PV.int .i64 x].all PV.ones=true∧[PV.int .i64 x].all PV.okc=true:=⟨hl,rfl,rfl⟩;simp only[Cq,Jn,if_true,Fa,Ee,Bool.false_eq_true,if_false,if_pos h1];rfl
  ·rw[Ae (by omega)];exact h.old id hid
 ·have hlt:0<l.length:=Ej.2 h1;refine⟨σ1.set ia [.arrv l.length 1 ((l++[x]).map (PV.int .i64))],?_,⟨by simp[h.len,h1],fun id hid=>?_,.inr ⟨by simp,by simp,?_,h4⟩⟩,fun id hid hne=>by rw[Ap (Ne.symm hne)]⟩
  ·have h1:l.length+[PV.int .i64 x].length≤Cb∧[PV.int .i64 x].all PV.ones=true∧[PV.int .i64 x].all PV.okc=true:=⟨hl,rfl,rfl⟩
   have h2:Gs σ1 ia (l.length - 1) 0 l.length 1=some (l.map (PV.int .i64)):=by
    simp only[Gs,h3,Dq,if_true,and_self];rw[if_pos (by simp),CS,BC (by simp)]
   simp only[Cq,Jn,if_true,Fa,h2,Ee,Bool.false_eq_true,if_false,if_pos h1];rw[Nat.sub_add_cancel hlt,Ed];rfl
  ·rw[Ap (by omega)];exact h.old id hid
  ·rw[AP (Ab.1 h3).1];simp
section
variable{cx:Cx}{n:Nat}{ff0:FF}{Q:Bt→FF→Sto→Prop}
theorem t6{σ:Sto}{it m since:Nat}{seen:List Nat}{out sc z:PV}{d:KD}{ks:List Kx}{zs:List Int}(hx:Dp cx Fw)(hit:FC σ[it]?=some (m,since,seen))(hm:mapOf σ[m]?=some (d,z,ks,zs.map (PV.int .i64)))(hn:ks.length=since)
  (hs:Sub [(4,some sc),(3,some out),(18,some (.ref it 0))] ff0)
  (h0:Fe since seen=[]→∀ff1,Sub [(20,some (.bool false)),(4,some sc),(3,some out),(18,some (.ref it 0))] ff1→Q .normal ff1 σ)
  (h1:∀j,j∈Fe since seen→∀k x,ks[j]?=some k→zs[j]?=some x→∀ff1,Sub [(20,some (.bool true)),(4,some sc),(3,some out),(18,some (.ref it 0))] ff1→Q .normal ff1 (σ.set it [.itr m since (seen++[j])])):HT Tryz.prog cx 30 n c6 ff0 σ Q:=by
 have hsub:∀(v b:PV),Sub [(20,some b),(4,some sc),(3,some out),(18,some (.ref it 0))] ((20,some b)::(19,some v)::ff0):=by
  intro v b t y h;rw[FV] at h ⊢;cases hb:Nat.beq 20 t with
  |true=>simp only[hb] at h ⊢;exact h
  |false=>
   simp only[hb] at h ⊢;show Dm ((19,some v)::ff0) t=some y;rw[FV];cases hc:Nat.beq 19 t with
   |true=>
    have:=AU hc;subst this;cases h
   |false=>exact hs t y h
 rw[Az8];refine HT.next Ca hx k6 ok6 xw xu (d:=19) (by kernel_rfl) (by kernel_rfl) (by kernel_rfl) (by kernel_rfl) (by decide) (by decide) (hs 18 _ rfl) hit hm hn (fun v hv=>?_) (fun hl=>?_) (fun j hj k v hk hv=>?_)
 ·obtain⟨x,_,rfl⟩:=Ce.1 hv;rfl
 ·exact⟨_,_,wL ff0 σ,h0 hl _ (hsub _ _)⟩
 ·rw[Af] at hv;obtain⟨x,hx',rfl⟩:=Ac.1 hv;exact⟨_,_,wJ k x ff0 _,h1 j hj k x hk hx' _ (hsub _ _)⟩
end
end Go.Abs.Z

namespace Go.Abs.Z
open Go.Proofs Go.RowKit Go.Sort
set_option linter.unusedVariables false
section
variable{cx:Cx}{n:Nat}{ff0:FF}{Q:Bt→FF→Sto→Prop}
theorem uA(n:Nat)(l:List Nat)(hn:l.Nodup)(hb:∀a∈l,a<n):l.length≤n:=by
 have h:l.Perm ((List.range n).filter fun a=>l.contains a):=(List.perm_ext_iff_of_nodup hn (List.nodup_range.filter _)).2 fun a=>by
  simp;exact hb a
 rw[h.length_eq];exact BM (Ez _ _) (by simp)
theorem av(k:Kx):(∃a b,k.pv=.int a b)∨(∃l,k.pv=.str l)∨∃l,k.pv=.agg l:=by
 cases k with
 |i a b=>exact .inl ⟨a,b,rfl⟩
 |s l=>exact .inr (.inl ⟨l,rfl⟩)
 |a l=>exact .inr (.inr ⟨_,rfl⟩)
theorem Gy.form{σ σ1:Sto}{out:PV}{l:List Int}{k ia:Nat}(h:Gy σ σ1 out l k ia):out=.nils∨∃i g l,out=.arr i g 0 l 1:=by
 rcases h.out with⟨_,h⟩ | ⟨_,h,_⟩
 ·exact .inl h
 ·exact .inr ⟨_,_,_,h⟩
theorem inner{σ σ0:Sto}{it m k ia:Nat}{zs l0:List Int}{out0 sc z:PV}{d:KD}{ks:List Kx}(hx:Dp cx Fw)(hml:m<σ.length)(hm:mapOf σ[m]?=some (d,z,ks,zs.map (PV.int .i64)))(hn:ks.length=zs.length)
  (hit:FC σ0[it]?=some (m,zs.length,[])) (hge:σ.length≤it) (hst:Gy σ σ0 out0 l0 k ia) (hia:l0=[]→zs≠[]→ia=σ0.length) (hne:l0≠[]→it≠ia) (hmax:l0.length+zs.length≤Cb) (hs:Sub [(4,some sc),(3,some out0),(18,some (.ref it 0))] ff0)
  (hq:∀ff1 σ1 out l,Sub [(4,some sc),(3,some out),(18,some (.ref it 0))] ff1→Gy σ σ1 out l k ia→l.Perm (l0++zs)→Q (.exit 2) ff1 σ1):HT Tryz.prog cx 30 n (.loop cL1) ff0 σ0 Q:=by
 let J:Nat→FF→Sto→Prop:=fun mm ff σ1=>∃seen l out,mm=(Fe zs.length seen).length∧Sub [(4,some sc),(3,some out),(18,some (.ref it 0))] ff∧FC σ1[it]?=some (m,zs.length,seen)∧seen.Nodup∧(∀j∈seen,j<zs.length)∧Gy σ σ1 out l k ia∧l.Perm (l0++ats zs seen)∧(l=[]→zs≠[]→ia=σ1.length)∧(l≠[]→it≠ia)
 refine HT.loop J (m:=(Fe zs.length []).length) ⟨[],l0,out0,rfl,hs,hit,.nil,fun j h=>by simp at h,hst,by simp[ats],hia,hne⟩ ?_
 rintro mm ff σ1 ⟨seen,l,out,rfl,hs,hit,hnd,hb,hst,hp,hia,hne⟩
 have hm1:mapOf σ1[m]?=some (d,z,ks,zs.map (PV.int .i64)):=by rw[hst.old m hml];exact hm
 rw[vJ]
 refine HT.seq (R:=fun e ff1 σ2=>e=.normal∧((Fe zs.length seen=[]∧σ2=σ1∧Sub [(20,some (.bool false)),(4,some sc),(3,some out),(18,some (.ref it 0))] ff1) ∨
  ∃j x kk,j∈Fe zs.length seen∧ks[j]?=some kk∧zs[j]?=some x∧σ2=σ1.set it [.itr m zs.length (seen++[j])]∧Sub [(20,some (.bool true)),(4,some sc),(3,some out),(18,some (.ref it 0))] ff1)) ?_ ?_ ?_
 ·exact t6 hx hit hm1 hn hs (fun hl ff1 h=>⟨rfl,.inl ⟨hl,rfl,h⟩⟩) (fun j hj kk x hk hx' ff1 h=>⟨rfl,.inr ⟨j,x,kk,hj,hk,hx',rfl,h⟩⟩)
 rotate_left
 ·rintro e ff1 σ2 he ⟨h,_⟩;exact absurd h he
 rintro ff1 σ2 ⟨_,⟨hl,rfl,hs1⟩ | ⟨j,x,kk,hj,hk,hxz,rfl,hs1⟩⟩
 ·refine HT.seq (R:=fun e ff2 σ3=>e=.exit 2∧σ3=σ2∧Sub [(4,some sc),(3,some out),(18,some (.ref it 0))] ff2) (tK hx hs1 fun ff2 h=>⟨rfl,rfl,h⟩) ?_ ?_
  ·rintro ff2 σ3 ⟨h,_⟩;cases h
  ·rintro e ff2 σ3 _ ⟨rfl,rfl,h⟩
   refine .inr ⟨by simp,hq _ _ out l h hst ?_⟩
   ·refine hp.trans (List.Perm.append_left _ ?_)
    have:=(cz hl hnd hb).map fun j=>zs.getD j 0
    have e:=dQ zs;unfold ats at e ⊢;rw[e] at this;exact this
 ·have hlt:=TU.1 hj
  have hitl:it<σ1.length:=by
   unfold FC at hit
   split at hit
   ·rename_i hh;exact(Ab.1 hh).1
   ·cases hit
  have hzne:zs≠[]:=by rintro rfl;simp at hxz
  have hst2:=hst.put (cs:=[.itr m zs.length (seen++[j])]) hge hne
  have hll:l.length+1≤Cb:=by
   have h1:=hp.length_eq
   have h2:seen.length<zs.length:=by
    have:=uA zs.length (seen++[j]) (List.nodup_append.2 ⟨hnd,by simp,fun a ha b hb=>by simp at hb;subst hb;rintro rfl;exact hlt.2 ha⟩) fun a ha=>by
     rcases List.mem_append.1 ha with h | h
     ·exact hb a h
     ·simp at h;subst h;exact hlt.1
    simp at this;omega
   simp[ats] at h1;omega
  obtain⟨σ3,happ,hst3,hsame⟩:=hst2.app (fun e=>by rw[Bo];exact hia e hzne) hll x
  refine HT.seq (R:=fun e ff2 σ3=>e=.normal∧σ3=σ1.set it [.itr m zs.length (seen++[j])]∧Sub [(4,some sc),(3,some out),(18,some (.ref it 0))] ff2) (tK hx hs1 fun ff2 h=>⟨rfl,rfl,h⟩) ?_ ?_
  rotate_left
  ·rintro e ff2 σ3 he ⟨h,_⟩;exact absurd h he
  rintro ff2 _ ⟨_,rfl,hs2⟩
  have hne':it≠ia:=by
   by_cases e:l=[]
   ·rw[hia e hzne];omega
   ·exact hne e
  have hitn:FC σ3[it]?=some (m,zs.length,seen++[j]):=by
   rw[hsame it (by rw[Bo];exact hitl) hne',AP hitl];rfl
  refine tP hx (av kk) hst.form (x:=x) ?_ happ hs2 fun ff3 h3=>.inl ⟨rfl,_,Xi hj,seen++[j],l++[x],_,rfl,h3,hitn,?_,?_,hst3,?_,fun e=>by simp at e,fun _=>hne'⟩
  ·have hm2:mapOf (σ1.set it [.itr m zs.length (seen++[j])])[m]?=some (d,z,ks,zs.map (PV.int .i64)):=by rw[hst2.old m hml];exact hm
   simp only[BR,AP hitl,FC,hm2,List.getLast?_append,List.getLast?_singleton,Option.some_or,hk,Af,hxz,Ay,hn]
   rfl
  ·exact List.nodup_append.2 ⟨hnd,by simp,fun a ha b hb=>by simp at hb;subst hb;rintro rfl;exact hlt.2 ha⟩
  ·intro a ha;rcases List.mem_append.1 ha with h | h
   ·exact hb a h
   ·simp at h;subst h;exact hlt.1
  ·have e:ats zs (seen++[j])=ats zs seen++[x]:=by simp[ats,Aj,hxz]
   rw[e,←BP];exact hp.append_right _
end
end Go.Abs.Z
