/- A part of the proof: G3 D3 G4 WA KA G5 HF HP WB KB G6 WC KC. -/
import Derived.KernelRfl
import Derived.Test.YtbkjmbhabkkoeaaGreatDoorKao
import Derived.Test.YtbkjmbhabkkoeaaGreatDoorKba
import Derived.Test.YtbkjmbhabkkoeaaGreatDoorKap
import Derived.Test.YtbkjmbhabkkoeaaGreatDoorKbb

set_option linter.unusedVariables false
set_option linter.unusedSimpArgs false
namespace Go.Abs.Z
noncomputable section
open Go.Proofs Go.RowKit
abbrev E:=Ev run
abbrev LE:=IL pur run
abbrev N(n:Nat):PV:=.int .i64 (n:Int)
abbrev I(x:Int):PV:=.int .i64 x
def Rn(f:FuncId)(af:Cy):Prop:=∀n args σ,run (n+1) f args σ=GD pur (run n) n af args σ
structure Stp where
 g:Nat
 a:Ans
 q:Prop→Prop
 pf:∀{x:Prop},x→q x
section
variable{R:Nat→Caller}{k:AK}{vs:List PV}{σ σ':Sto}{rs:List (Option PV)}
def st(g:Nat)(h:EM pur R k vs σ rs σ'):Stp:=⟨g,.res rs (some σ'),fun x=>EM pur R k vs σ rs σ'∧x,fun x=>⟨h,x⟩⟩
def sg(g:Nat)(h:EM pur R k vs σ rs σ'):Stp:=⟨g,.grdr rs (some σ'),fun x=>EM pur R k vs σ rs σ'∧(some true=some true∧x),fun x=>⟨h,rfl,x⟩⟩
def sp(g:Nat){k:PK}(h:AJ k vs=some rs):Stp:=⟨g,.res rs none,fun x=>(∀(R:Nat→Caller) (σ:Sto),EM pur R (.p k) vs σ rs σ)∧x,fun x=>⟨fun _ _=>ji h,x⟩⟩
def sq(g:Nat){k:PK}(h:AJ k vs=some rs):Stp:=⟨g,.grdr rs none,fun x=>(∀(R:Nat→Caller) (σ:Sto),EM pur R (.p k) vs σ rs σ)∧(some true=some true∧x),fun x=>⟨fun _ _=>ji h,rfl,x⟩⟩
def sl(g:Nat)(ls:List Nat){keep:List Bool}{c:Dc}{ff ff1:FF}{e:Bt}(h:IL pur R keep c ff σ e ff1 σ'):Stp:=⟨g,.loop ls e ff1 σ',fun x=>IL pur R keep c ff σ e ff1 σ'∧x,fun x=>⟨h,x⟩⟩
end
def MZ(l:List Stp):Tape:=List.rec (motive:=fun _=>Tape) [] (fun s _ ih=>(s.g,s.a)::ih) l
def qOf(l:List Stp):Prop→Prop:=List.rec (motive:=fun _=>Prop→Prop) (fun x=>x) (fun s _ ih x=>ih (s.q x)) l
theorem Li:∀(l:List Stp) {x:Prop},x→qOf l x
 |[],_,h=>h
 |s::l,_,h=>Li l (s.pf h)
theorem rule{f:FuncId}{af:Cy}{args:List PV}{σ σ':Sto}{r:PV}(hR:Rn f af)(l:List Stp)(h:runT pur run af args σ (MZ l)=some (r,σ',qOf l True):=by kernel_rfl):E f args σ r σ':=aF (fun n=>hR n args σ) (Li l trivial) h
theorem Wq{f:FuncId}{af:Cy}{args:List PV}{σ σ':Sto}{r:PV}{ff:FF}{rs:List (Nat×Option Nat)}(hR:Rn f af)(l:List Stp)(ho:(Gt ff rs).bind Fu=some r)(h:iC pur run af args σ (MZ l) r=some (r,σ',(Gt ff rs).bind Fu=some r∧qOf l True):=by kernel_rfl):E f args σ r σ':=lI (fun n=>hR n args σ) ⟨ho,Li l trivial⟩ h
theorem ER{keep:List Bool}{c:Dc}{ff ffn ff':FF}{σ σn σ':Sto}{e:Bt}(ls:List Nat)(l:List Stp)(hl:IL pur run keep c ffn σn e ff' σ')(h:ZX pur run keep c ls ff σ (MZ l)=some (ffn,σn,qOf l True):=by kernel_rfl):IL pur run keep c ff σ e ff' σ':=TS (Li l trivial) hl h
theorem DR{keep:List Bool}{c:Dc}{ff ff':FF}{σ σ':Sto}{e:Bt}(ls:List Nat)(l:List Stp)(h:Vj pur run c ls ff σ (MZ l)=some (e,ff',σ',qOf l True):=by kernel_rfl):IL pur run keep c ff σ e ff' σ':=Ro (Li l trivial) h
theorem P{k:PK}{vs:List PV}{rs:List (Option PV)}(h:AJ k vs=some rs):EM pur run (.p k) vs [] rs []:=ji h
theorem PS(σ:Sto){k:PK}{vs:List PV}{rs:List (Option PV)}(h:AJ k vs=some rs):EM pur run (.p k) vs σ rs σ:=ji h
theorem Q{k:RK}{vs:List PV}{rs:List (Option PV)}(h:BR k vs []=some rs):EM pur run (.r k) vs [] rs []:=um h
theorem QS(σ:Sto){k:RK}{vs:List PV}{rs:List (Option PV)}(h:BR k vs σ=some rs):EM pur run (.r k) vs σ rs σ:=um h
theorem Uk{f:FuncId}{args:List PV}{σ σ':Sto}{r:PV}(N:Nat)(h:∀n,N≤n→run (n+1) f args σ=some (r,σ')):E f args σ r σ':=
 ⟨N+1,fun n hn=>by obtain⟨n,rfl⟩:∃m,n=m+1:=⟨n - 1,by omega⟩;exact h n (by omega)⟩
theorem vo{f:FuncId}{args:List PV}{σ σ1 σ2:Sto}{r r':PV}(h:E f args σ r σ1)(h':E f args σ r' σ2):r=r'∧σ1=σ2:=by
 obtain⟨N,H⟩:=h;obtain⟨M,K⟩:=h';have a:=H (max N M) (by omega)
 have b:=K (max N M) (by omega)
 rw[a] at b;cases b;exact⟨rfl,rfl⟩
def qH(size:Nat):List PV→PV
 |[]=>.nils
 |es=>.slice true size es
def VL(size:Nat):List PV→PV
 |[]=>.nils
 |es=>.slice false size es
section
variable{σ:Sto}{k:IntKind}
theorem AvO(v:PV)(h:v.free=true):AJ .mv [v]=some [some v.Ag]:=by simp[AJ,h]
theorem AvP(v:PV)(h:v.flat=true):AJ .bx [v]=some [some (.vptr v.Ag)]:=by simp[AJ,h]
theorem iY(o:Bool)(s j:Nat)(x:List PV)(v:PV)(h:x[j]?=some v):AJ (.idx s) [.slice o s x,.int .i64 j]=some [some (.vptr v)]:=by
 have:(0:Int)≤(j:Int):=by omega
 simp[AJ,K7,h,this]
theorem NN{v x:PV}(hf:v.free=true)(h:v.Ag=x):AJ .mv [v]=some [some x]:=by rw[AvO v hf,h]
theorem Zl(size:Nat)(es:List PV):(qH size es).Ag=VL size es:=by cases es<;>rfl
theorem X6(size:Nat)(es:List PV):(VL size es).Ag=VL size es:=by cases es<;>rfl
theorem mQ(size:Nat)(es:List PV):(qH size es).free=true:=by cases es<;>rfl
theorem dW(size:Nat)(es:List PV):(VL size es).free=true:=by cases es<;>rfl
theorem dX(size:Nat)(es:List PV):(VL size es).flat=true:=by cases es<;>rfl
theorem mR(size:Nat)(es:List PV):(qH size es).flat=true:=by cases es<;>rfl
theorem Az9{v x:PV}(hf:v.flat=true)(h:v.Ag=x):AJ .bx [v]=some [some (.vptr x)]:=by rw[AvP v hf,h]
theorem vM{cs:List PV}{x:PV}(h:(PV.agg cs).Ag=x):AJ .bx [.agg cs]=some [some (.vptr x)]:=Az9 rfl h
theorem II{op:BinOp}{c:Nat}{x y:PV}{e v:Bool}(h:e=v)(hs:AJ (.bin op c) [x,y]=some [some (.bool e)]):AJ (.bin op c) [x,y]=some [some (.bool v)]:=by rw[hs,h]
theorem dO{α:Type}[BEq α][LawfulBEq α]{x y:α}(h:x=y):(x==y)=true:=by simp[h]
theorem dN{α:Type}[BEq α][LawfulBEq α]{x y:α}(h:x≠y):(x==y)=false:=by simp[h]
theorem dM{α:Type}[BEq α][LawfulBEq α]{x y:α}(h:x=y):(x != y)=false:=by simp[h]
theorem dL{α:Type}[BEq α][LawfulBEq α]{x y:α}(h:x≠y):(x != y)=true:=by simp[h]
theorem wh{x y z:Int}(h:k.wrap (x+y)=z):AJ (.bin .add 0) [.int k x,.int k y]=some [some (.int k z)]:=by
 rw[←h];cases k<;>rfl
theorem Ye{x y z:Int}(h:k.wrap (x - y)=z):AJ (.bin .sub 0) [.int k x,.int k y]=some [some (.int k z)]:=by
 rw[←h];cases k<;>rfl
theorem Di(j m:Nat)(h:j<9000000000)(hm:m<9000000000:=by decide):AJ (.bin .add 0) [.int .i64 (j:Nat),.int .i64 (m:Nat)]=some [some (.int .i64 ((j+m:Nat):Int))]:=by
 apply wh;simp[IntKind.wrap,IntKind.bits,IntKind.signed];omega
theorem lM(i:Nat){vs:List PV}{v x:PV}(h:vs[i]?=some v)(h2:vs.all PV.free=true∧v.Ag=x):AJ (.ext i) [.tuple vs]=some [some x]:=by
 show(if vs.all PV.free=true then _ else _)=_
 rw[if_pos h2.1,h,Ay,h2.2]
theorem qF{size:Nat}{s x:PV}{es xs:List PV}(h1:Td size s=some es)(h2:Tc size x=some xs)(h3:xs.isEmpty=false)(h4:es.length+xs.length≤Cb)(h5:xs.all PV.ones=true):AJ (.app size) [s,x]=some [some (.slice true size (es++xs)),some s.Ag]:=by
 show dS size s x=_;unfold dS;rw[h1,h2];dsimp only;rw[if_neg (by simp[h3]),if_pos ⟨h4,h5⟩]
theorem qE{size:Nat}{o':Bool}{es xs:List PV}(h4:es.length+xs.length≤Cb)(h3:xs.isEmpty=false)(h5:xs.all PV.ones=true):AJ (.app size) [.slice true size es,.slice o' size xs]=some [some (.slice true size (es++xs)),some (.slice false size es)]:=
 qF (by simp[Td]) (by simp[Tc]) h3 h4 h5
theorem sU{off n:Nat}{c v r:PV}(h1:v.cells.length=n)(h2:v.okc=true)(h3:v.ones=true)(h:upd c off v.Ag=some r):AJ (.stl off n) [c,v]=some [some r]:=by
 show(if _ then _ else _)=_
 rw[if_pos ⟨h1,h2,h3⟩,h];rfl
section
variable{x y:Int}
theorem Cm(k:IntKind)(h:x<y):AJ (.bin .lss 0) [.int k x,.int k y]=some [some (.bool true)]:=II (e:=decide (x<y)) (decide_eq_true h) (by cases k<;>rfl)
theorem CY(k:IntKind)(h:¬x<y):AJ (.bin .lss 0) [.int k x,.int k y]=some [some (.bool false)]:=II (e:=decide (x<y)) (decide_eq_false h) (by cases k<;>rfl)
theorem vR(k:IntKind)(h:x≤y):AJ (.bin .leq 0) [.int k x,.int k y]=some [some (.bool true)]:=II (e:=decide (x≤y)) (decide_eq_true h) (by cases k<;>rfl)
theorem vS(k:IntKind)(h:¬x≤y):AJ (.bin .leq 0) [.int k x,.int k y]=some [some (.bool false)]:=II (e:=decide (x≤y)) (decide_eq_false h) (by cases k<;>rfl)
theorem KO(k:IntKind)(h:x>y):AJ (.bin .gtr 0) [.int k x,.int k y]=some [some (.bool true)]:=II (e:=decide (x>y)) (decide_eq_true h) (by cases k<;>rfl)
theorem Ia(k:IntKind)(h:¬x>y):AJ (.bin .gtr 0) [.int k x,.int k y]=some [some (.bool false)]:=II (e:=decide (x>y)) (decide_eq_false h) (by cases k<;>rfl)
theorem SV(k:IntKind)(h:x≥y):AJ (.bin .geq 0) [.int k x,.int k y]=some [some (.bool true)]:=II (e:=decide (x≥y)) (decide_eq_true h) (by cases k<;>rfl)
theorem KP(k:IntKind)(h:¬x≥y):AJ (.bin .geq 0) [.int k x,.int k y]=some [some (.bool false)]:=II (e:=decide (x≥y)) (decide_eq_false h) (by cases k<;>rfl)
theorem vT(k:IntKind)(h:x=y):AJ (.bin .eql 0) [.int k x,.int k y]=some [some (.bool true)]:=II (e:=(x==y)) (dO h) (by cases k<;>rfl)
theorem SY(k:IntKind)(h:x≠y):AJ (.bin .eql 0) [.int k x,.int k y]=some [some (.bool false)]:=II (e:=(x==y)) (dN h) (by cases k<;>rfl)
theorem SS(k:IntKind)(h:x≠y):AJ (.bin .neq 0) [.int k x,.int k y]=some [some (.bool true)]:=II (e:=(x != y)) (dL h) (by cases k<;>rfl)
theorem IJ(k:IntKind)(h:x=y):AJ (.bin .neq 0) [.int k x,.int k y]=some [some (.bool false)]:=II (e:=(x != y)) (dM h) (by cases k<;>rfl)
end
section
variable{x y:List UInt8}
end
theorem Ny(ff:FF)(t:Nat)(n:Option Nat)(rs:List (Nat×Option Nat)):Gt ff ((t,n)::rs)=(match Dm ff t,Gt ff rs with | some v,some vs=>if Lg v n then some (v.Ag::vs) else(Lh v n).map fun r=>r::vs | _,_=>none):=rfl
theorem Qh(ff:FF):Gt ff []=some []:=rfl
theorem ok_none(v:PV):Lg v none=v.free:=rfl
theorem Zk(cs:List PV):(PV.agg cs).Ag=.agg (cs.map PV.D8):=rfl
theorem ja(k:IntKind)(x:Int):(PV.int k x).D8=.int k x:=rfl
theorem bE(x:Bool):(PV.bool x).D8=.bool x:=rfl
theorem bD:PV.nils.D8=.nils:=rfl
theorem YC(o:Bool)(s:Nat)(x:List PV):(PV.slice o s x).D8=.slice false s x:=rfl
theorem jc(size:Nat)(es:List PV):(qH size es).D8=VL size es:=by cases es<;>rfl
theorem bF(size:Nat)(es:List PV):(VL size es).D8=VL size es:=by cases es<;>rfl
theorem mM(cs:List PV):(PV.agg cs).free=true:=rfl
theorem mO(cs:List PV):(PV.agg cs).flat=true:=rfl
theorem UD(cs:List PV):(PV.tuple cs).Ag=.tuple cs:=rfl
theorem Yd(cs:List PV):(PV.tuple cs).flat=cs.all PV.LP:=by simp[PV.flat]
theorem Yc(cs:List PV):(PV.tuple cs).free=true:=rfl
theorem dz(k:IntKind)(x:Int):(PV.int k x).LP=true:=rfl
theorem YZ(x:Bool):(PV.bool x).LP=true:=rfl
theorem XJ(o:Bool)(s:Nat)(x:List PV):(PV.slice o s x).LP=true:=rfl
theorem YY:PV.nils.LP=true:=rfl
theorem Y0(size:Nat)(es:List PV):(VL size es).LP=true:=by cases es<;>rfl
theorem dJ(cs:List PV):(PV.agg cs).cells=cs:=rfl
theorem jr(cs:List PV):(PV.agg cs).ones=cs.all PV.one:=rfl
theorem jq(k:IntKind)(x:Int):(PV.int k x).ones=true:=rfl
theorem pO(k:IntKind)(x:Int):(PV.int k x).one=true:=rfl
end
attribute [simp] Zl X6 mQ dW dX mR ok_none Zk ja bE bD YC jc bF mM mO UD Yd Yc dz YZ XJ YY Y0 dJ jr Qh jq pO
def lps:Dc→List (List Bool×Dc)
 |.seq a b=>lps a++lps b
 |.cond _ a b=>lps a++lps b
 |.block _ a=>lps a
 |.loop k a=>(k,a)::lps a
 |_=>[]
def ml(f:Cy)(k:Nat):List Bool:=((lps f.code).getD k ([],.skip)).1
def lc(f:Cy)(k:Nat):Dc:=((lps f.code).getD k ([],.skip)).2
abbrev LpE(f:Cy)(k:Nat):=LE (ml f k) (lc f k)
theorem oW{f:FuncId}{xs:List PV}{σ σ':Sto}{r:PV}(h:E f xs σ r σ')(hp:pur f=false:=by kernel_rfl)(hs:xs.map PV.Ag=xs∧xs.all PV.free=true∧r.Ag=r:=by first | exact⟨rfl,rfl,rfl⟩ | simp):EM pur run (.w (.call f)) xs σ [some r] σ':=rA h hp hs.1 hs.2.1 hs.2.2
theorem oC{f:FuncId}{xs:List PV}{r:PV}{s:Sto}(h:E f xs [] r s)(hs:(xs.all PV.free&&xs.all PV.flat)=true∧xs.map PV.Ag=xs∧r.flat=true∧r.Ag=r:=by first | exact⟨rfl,rfl,rfl,rfl⟩ | simp):EM pur run (.c f) xs [] [some r] []:=uo h hs.2.1 hs.1 hs.2.2.1 hs.2.2.2
theorem oCS(σ:Sto){f:FuncId}{xs:List PV}{r:PV}{s:Sto}(h:E f xs [] r s)(hs:(xs.all PV.free&&xs.all PV.flat)=true∧xs.map PV.Ag=xs∧r.flat=true∧r.Ag=r:=by first | exact⟨rfl,rfl,rfl,rfl⟩ | simp):EM pur run (.c f) xs σ [some r] σ:=uo h hs.2.1 hs.1 hs.2.2.1 hs.2.2.2
end
end Go.Abs.Z

namespace Go.Abs.Z
def Set'(l:List Int):Prop:=Srt l∧∀x∈l,0≤x∧x<1024
theorem UK:Set' []:=⟨.nil,fun _ h=>by cases h⟩
theorem QF{a b:List Int}(h:Set' a)(hb:Set' b):Set' (Iw a b):=
 ⟨QC b h.1,fun x hx=>(GG.1 hx).elim (h.2 x) (hb.2 x)⟩
theorem bi{s g k:List Int}(h:Set' s)(hg:Set' g):Set' (Ih s g k):=
 ⟨Ov s hg.1,fun x hx=>(JW.1 hx).elim (hg.2 x) fun h'=>h.2 x h'.1⟩
theorem ZI{l:List Int}(h:Set' l):l.length≤1024:=by
 have e:=fJ h.1 (Vf fun _=>true) fun x hx=>by
  have:=h.2 x hx;exact U3.2 ⟨x.toNat,by omega,rfl,by omega⟩
 have e2:=List.length_filter_le (fun _=>true) (List.range 1024)
 simp only[lst,List.length_map] at e;simp only[List.length_range] at e2;omega
structure Ry where
 n:Nat
 es:List (Nat×Nat)
 gn:Nat→List Int
 kl:Nat→List Int
 hes:∀e∈es,e.1<n∧e.2<n
 hgn:∀i,i<n→Set' (gn i)
structure Rt where
 S:Nat→List Int
 T:Nat→List Int
 c:Bool
section
variable(y:Ry)
def Ry.st1(s:Rt)(a:Nat):Rt:=
 let x:=Ih (s.S a) (y.gn a) (y.kl a)
 ⟨s.S,CG s.T a x,s.c||!decide (x.length=(s.T a).length)⟩
def Ry.st2(s:Rt)(e:Nat×Nat):Rt:=
 let x:=Iw (s.S e.1) (s.T e.2)
 ⟨CG s.S e.1 x,s.T,s.c||!decide (x.length=(s.S e.1).length)⟩
def Ry.rnd(S T:Nat→List Int):Rt:=y.es.foldl (fun s e=>Ry.st2 s e) ((List.range y.n).foldl y.st1 ⟨S,T,false⟩)
def Ry.sr(i j:Nat):Prop:=(i,j)∈y.es
def Ry.gen(i v:Nat):Prop:=i<y.n∧(v:Int)∈y.gn i
def Ry.kill(i v:Nat):Prop:=(v:Int)∈y.kl i
def Ry.R:=Rch y.sr y.gen y.kill
def Ry.In:=Inn y.sr y.gen y.kill
structure Gd(S T:Nat→List Int):Prop where
 sS:∀i,i<y.n→Set' (S i)
 tS:∀i,i<y.n→Set' (T i)
 sI:∀(i v:Nat),i<y.n→(v:Int)∈S i→y.In i v
 tR:∀(i v:Nat),i<y.n→(v:Int)∈T i→y.R i v
variable{y}
theorem Gd.init:Gd y (fun _=>[]) (fun _=>[]):=⟨fun _ _=>UK,fun _ _=>UK,(fun _ _ _ h=>by simp at h),(fun _ _ _ h=>by simp at h)⟩
theorem Gd.AzQ{S T:Nat→List Int}(h:Gd y S T){a:Nat}(ha:a<y.n):Gd y S (CG T a (Ih (S a) (y.gn a) (y.kl a))):=by
 refine⟨h.sS,fun i hi=>?_,h.sI,fun i v hi=>?_⟩
 ·unfold CG;split
  ·exact bi (h.sS a ha) (y.hgn a ha)
  ·exact h.tS i hi
 ·unfold CG;split
  ·rename_i he;subst he;intro hx;rcases JW.1 hx with hx | ⟨hx,hk⟩
   ·exact Ml.2 (.inl ⟨ha,hx⟩)
   ·exact Ml.2 (.inr ⟨h.sI _ _ ha hx,hk⟩)
  ·exact h.tR i v hi
theorem Gd.wC{S T:Nat→List Int}(h:Gd y S T){e:Nat×Nat}(he:e∈y.es):Gd y (CG S e.1 (Iw (S e.1) (T e.2))) T:=by
 obtain⟨h1,h2⟩:=y.hes e he;refine⟨fun i hi=>?_,h.tS,fun i v hi=>?_,h.tR⟩
 ·unfold CG;split
  ·exact QF (h.sS _ h1) (h.tS _ h2)
  ·exact h.sS i hi
 ·unfold CG;split
  ·rename_i hie;subst hie;intro hx;rcases GG.1 hx with hx | hx
   ·exact h.sI _ _ h1 hx
   ·exact⟨e.2,he,h.tR _ _ h2 hx⟩
  ·exact h.sI i v hi
theorem lG:∀(l:List Nat) (s:Rt),(∀a∈l,a<y.n)→l.Nodup→Gd y s.S s.T→Gd y (l.foldl y.st1 s).S (l.foldl y.st1 s).T∧(l.foldl y.st1 s).S=s.S∧(∀a∈l,(l.foldl y.st1 s).T a=Ih (s.S a) (y.gn a) (y.kl a))∧(∀a,a∉l→(l.foldl y.st1 s).T a=s.T a)∧((l.foldl y.st1 s).c=true→s.c=true∨∃a∈l,(Ih (s.S a) (y.gn a) (y.kl a)).length≠(s.T a).length)
 |[],s,_,_,h=>⟨h,rfl,(fun a h=>by cases h),fun _ _=>rfl,.inl⟩
 |b::l,s,hl,hn,h=>by
  obtain⟨hb,hn⟩:=List.nodup_cons.1 hn;obtain⟨h1,h2,h3,h4,h5⟩:=lG l (y.st1 s b) (fun j hj=>hl j (List.mem_cons_of_mem _ hj)) hn (h.AzQ (hl b (List.mem_cons_self ..)))
  refine⟨h1,h2,fun a ha=>?_,fun a ha=>?_,fun hc=>?_⟩
  ·rcases List.mem_cons.1 ha with rfl | ha
   ·rw[List.foldl_cons,h4 a hb];simp[Ry.st1,CG]
   ·exact h3 a ha
  ·have hab:a≠b:=fun e=>ha (e▸List.mem_cons_self ..)
   rw[List.foldl_cons,h4 a fun h=>ha (List.mem_cons_of_mem _ h)]
   simp[Ry.st1,CG,hab]
  ·rcases h5 hc with h6 | ⟨a,ha,h6⟩
   ·simp only[Ry.st1,Bool.or_eq_true,Bool.not_eq_true',decide_eq_false_iff_not] at h6;rcases h6 with h6 | h6
    ·exact .inl h6
    ·exact .inr ⟨b,List.mem_cons_self ..,h6⟩
   ·have hab:a≠b:=fun e=>hb (e▸ha)
    simp only[Ry.st1,CG,hab,if_false] at h6;exact .inr ⟨a,List.mem_cons_of_mem _ ha,h6⟩
theorem lF:∀(l:List (Nat×Nat)) (s:Rt),(∀e∈l,e∈y.es)→Gd y s.S s.T→Gd y (l.foldl (fun s e=>Ry.st2 s e) s).S (l.foldl (fun s e=>Ry.st2 s e) s).T∧(l.foldl (fun s e=>Ry.st2 s e) s).T=s.T∧(s.c=true→(l.foldl (fun s e=>Ry.st2 s e) s).c=true)∧(∀i,i<y.n→∀x,x∈s.S i→x∈(l.foldl (fun s e=>Ry.st2 s e) s).S i)∧
  ((l.foldl (fun s e=>Ry.st2 s e) s).c=false→(∀i,i<y.n→(l.foldl (fun s e=>Ry.st2 s e) s).S i=s.S i)∧∀e∈l,∀x,x∈s.T e.2→x∈s.S e.1)∧
  ((l.foldl (fun s e=>Ry.st2 s e) s).c=true→s.c=true∨∃i,i<y.n∧(s.S i).length<((l.foldl (fun s e=>Ry.st2 s e) s).S i).length)∧((∀e∈l,∀x,x∈s.T e.2→x∈s.S e.1)→(l.foldl (fun s e=>Ry.st2 s e) s).c=s.c)
 |[],s,_,h=>⟨h,rfl,id,fun _ _ _=>id,fun _=>⟨fun _ _=>rfl,(fun e h=>by cases h)⟩,.inl,fun _=>rfl⟩
 |e::l,s,hl,h=>by
  have he:=hl e (List.mem_cons_self ..);obtain⟨he1,he2⟩:=y.hes e he;have hg:=h.wC he;obtain⟨h1,h2,h3,h4,h5,h6,h7⟩:=lF l (Ry.st2 s e) (fun j hj=>hl j (List.mem_cons_of_mem _ hj)) hg
  have hsub:∀i,∀x,x∈s.S i→x∈(Ry.st2 s e).S i:=fun i x hx=>by
   simp only[Ry.st2,CG];split
   ·rename_i hi;subst hi;exact GG.2 (.inl hx)
   ·exact hx
  have hlen:∀{a b:List Int},Set' a→Set' b→(∀x∈a,x∈b)→a.length≤b.length:=fun ha hb hs=>fJ ha.1 hb.1 hs
  have hS:Set' (Iw (s.S e.1) (s.T e.2)):=QF (h.sS _ he1) (h.tS _ he2);have hsame:(Iw (s.S e.1) (s.T e.2)).length=(s.S e.1).length→Iw (s.S e.1) (s.T e.2)=s.S e.1:=fun hh=>(nA (h.sS _ he1).1 hS.1 (fun x hx=>GG.2 (.inl hx)) hh.symm).symm
  refine⟨h1,h2,fun hc=>h3 (by simp[Ry.st2,hc]),fun i hi x hx=>h4 i hi x (hsub i x hx),fun hc=>?_,fun hc=>?_,fun ha=>?_⟩
  ·obtain⟨h8,h9⟩:=h5 hc
   have hcs:(Ry.st2 s e).c=false:=by
    cases hcc:(Ry.st2 s e).c with
    |false=>rfl
    |true=>rw[List.foldl_cons] at hc;rw[h3 hcc] at hc;cases hc
   simp only[Ry.st2,Bool.or_eq_false_iff,Bool.not_eq_false',decide_eq_true_eq] at hcs;have hu:=hsame hcs.2
   have hss:(Ry.st2 s e).S=s.S:=by
    funext i
    simp only[Ry.st2,CG];split
    ·rename_i hi;subst hi;exact hu
    ·rfl
   rw[hss] at h8 h9;refine⟨h8,fun e' he' x hx=>?_⟩
   rcases List.mem_cons.1 he' with rfl | he'
   ·rw[←hu];exact GG.2 (.inr hx)
   ·exact h9 e' he' x hx
  ·rcases h6 hc with h8 | ⟨i,hi,h8⟩
   ·simp only[Ry.st2,Bool.or_eq_true,Bool.not_eq_true',decide_eq_false_iff_not] at h8;rcases h8 with h8 | h8
    ·exact .inl h8
    ·refine .inr ⟨e.1,he1,?_⟩
     have ha:=hlen (h.sS _ he1) hS fun x hx=>GG.2 (.inl hx)
     have hb:=hlen hS (h1.sS _ he1) fun x hx=>h4 e.1 he1 x (by simpa [Ry.st2,CG] using hx)
     rw[List.foldl_cons];omega
   ·refine .inr ⟨i,hi,?_⟩
    have ha:=hlen (h.sS i hi) (hg.sS i hi) fun x hx=>by
     have:=hsub i x hx;simpa [Ry.st2] using this
    have e':(Ry.st2 s e).S i=CG s.S e.1 (Iw (s.S e.1) (s.T e.2)) i:=rfl;rw[e'] at h8;rw[List.foldl_cons];omega
  ·have hu:Iw (s.S e.1) (s.T e.2)=s.S e.1:=QD hS.1 (h.sS _ he1).1 fun x=>by
    rw[GG];exact⟨fun h=>h.elim id (ha e (List.mem_cons_self ..) x),.inl⟩
   have hss:Ry.st2 s e=s:=by
    have e1:CG s.S e.1 (s.S e.1)=s.S:=by
     funext i;simp only[CG];split
     ·rename_i hi;rw[hi]
     ·rfl
    simp only[Ry.st2,hu,e1];simp
   rw[List.foldl_cons];rw[hss] at h7 ⊢;exact h7 fun e' he'=>ha e' (List.mem_cons_of_mem _ he')
theorem Gd.rnd{S T:Nat→List Int}(h:Gd y S T):Gd y (y.rnd S T).S (y.rnd S T).T:=by
 obtain⟨h1,_⟩:=lG (List.range y.n) ⟨S,T,false⟩ (fun a ha=>List.mem_range.1 ha) List.nodup_range h
 exact(lF y.es _ (fun _ h=>h) h1).1
theorem Gd.still{S T:Nat→List Int}(h:Gd y S T)(hc:(y.rnd S T).c=false):(∀(i v:Nat),i<y.n→((v:Int)∈(y.rnd S T).S i↔y.In i v))∧∀(i v:Nat),i<y.n→((v:Int)∈(y.rnd S T).T i↔y.R i v):=by
 have hg:=h.rnd;obtain⟨h1,h2,h3,_⟩:=lG (List.range y.n) ⟨S,T,false⟩ (fun a ha=>List.mem_range.1 ha) List.nodup_range h
 obtain⟨_,k2,_,_,k5,_⟩:=lF y.es _ (fun _ h=>h) h1
 obtain⟨k6,k7⟩:=k5 hc;change (y.rnd S T).T=_ at k2;rw[h2] at k6 k7;dsimp only at k6 k7 h3;have hT:∀i,i<y.n→(y.rnd S T).T i=Ih (S i) (y.gn i) (y.kl i):=fun i hi=>by rw[k2];exact h3 i (List.mem_range.2 hi)
 have hS:∀i,i<y.n→(y.rnd S T).S i=S i:=k6;have hsub:∀e∈y.es,∀x,x∈(y.rnd S T).T e.2→x∈S e.1:=fun e he x hx=>k7 e he x (by rw[←k2];exact hx)
 have hR:∀(i v:Nat),y.R i v→i<y.n→(v:Int)∈(y.rnd S T).T i:=by
  intro i v hr;refine TJ (T:=fun i v=>i<y.n→(v:Int)∈(y.rnd S T).T i) ?_ ?_ hr
  ·rintro i v ⟨hi,hx⟩ _
   rw[hT i hi];exact JW.2 (.inl hx)
  ·rintro i j v he ht hk hi
   have h2:=(y.hes _ he).2;rw[hT i hi];exact JW.2 (.inr ⟨hsub _ he _ (ht h2),hk⟩)
 refine⟨fun i v hi=>⟨hg.sI i v hi,?_⟩,fun i v hi=>⟨hg.tR i v hi,fun hr=>hR i v hr hi⟩⟩
 rintro⟨j,he,hr⟩
 rw[hS i hi];exact hsub _ he _ (hR j v hr (y.hes _ he).2)
end
end Go.Abs.Z

namespace Go.Abs.Z
open Go.Proofs Go.RowKit
set_option linter.unusedVariables false
abbrev si(l:List Int):PV:=.slice false 1 (ints l)
abbrev siT(l:List Int):PV:=.slice true 1 (ints l)
def Ls(v:PV)(l:List Int):Prop:=v=si l∨(v=.nils∧l=[])
section
variable{v:PV}{l:List Int}{σ:Sto}
theorem Ls.free(h:Ls v l):v.free=true:=by rcases h with rfl | ⟨rfl,_⟩<;>rfl
theorem Ls.flat(h:Ls v l):v.flat=true:=by rcases h with rfl | ⟨rfl,_⟩<;>rfl
theorem Ls.dis(h:Ls v l):v.Ag=v:=by rcases h with rfl | ⟨rfl,_⟩<;>rfl
theorem Ls.one(h:Ls v l):v.one=true:=by rcases h with rfl | ⟨rfl,_⟩<;>rfl
theorem Ls.vV(h:Ls v l)(x:Int){r:PV}(hr:r.flat=true)(hd:r.Ag=r):([v,I x].all PV.free&&[v,I x].all PV.flat)=true∧[v,I x].map PV.Ag=[v,I x]∧r.flat=true∧r.Ag=r:=by
 rcases h with rfl | ⟨rfl,_⟩<;>exact⟨rfl,rfl,hr,hd⟩
theorem Ls.AzL(h:Ls v l){r:PV}(hr:r.flat=true)(hd:r.Ag=r):([v].all PV.free&&[v].all PV.flat)=true∧[v].map PV.Ag=[v]∧r.flat=true∧r.Ag=r:=by
 rcases h with rfl | ⟨rfl,_⟩<;>exact⟨rfl,rfl,hr,hd⟩
theorem Ls.cells(h:Ls v l):v.cells.length=1:=by rcases h with rfl | ⟨rfl,_⟩<;>rfl
theorem Gv(h:Ls v l):AJ .mv [v]=some [some v]:=NN h.free h.dis
theorem Ga(o:Bool)(l:List Int):AJ (.len false) [.slice o 1 (ints l)]=some [some (N l.length)]:=by
 show some [some (PV.int .i64 ((ints l).length:Nat))]=_;rw[Am]
theorem E8(h:Ls v l):AJ (.len false) [v]=some [some (N l.length)]:=by
 rcases h with rfl | ⟨rfl,rfl⟩
 ·exact Ga _ _
 ·rfl
theorem Dh{o:Bool}{l:List Int}{j:Nat}{x:Int}(h:l[j]?=some x):AJ (.idx 1) [.slice o 1 (ints l),N j]=some [some (.vptr (I x))]:=
 iY _ _ _ _ _ (by rw[Af,h];rfl)
theorem Ls.CQ(h:Ls v l){j:Nat}{x:Int}(hx:l[j]?=some x):v=si l:=by
 rcases h with rfl | ⟨rfl,rfl⟩
 ·rfl
 ·cases hx
theorem Mm:∀l:List Int,(ints l).all PV.ones=true
 |[]=>rfl
 |x::l=>Mm l
theorem VH(es xs:List Int)(o:Bool)(h:es.length+xs.length≤Cb):AJ (.app 1) [siT es,.slice o 1 (ints xs)]=some [some (siT (es++xs)),some (si es)]:=by
 cases xs with
 |nil=>
  rw[BD];show dS 1 (siT es) (.slice o 1 [])=_;simp[dS,Td,Tc];rfl
 |cons x xs=>
  have:=qE (size:=1) (o':=o) (es:=ints es) (xs:=ints (x::xs)) (by simpa using h) rfl (Mm _)
  rw[this];simp
theorem mD{l:List Int}{j:Nat}{x:Int}(hx:l[j]?=some x)(hs:l.length<4000000000):AJ (.app 1) [siT (l.take j),siT [x]]=some [some (siT (l.take (j+1))),some (si (l.take j))]:=by
 have e:l.take (j+1)=l.take j++[x]:=by rw[List.take_add_one,hx];rfl
 rw[e];exact VH (l.take j) [x] true (by rw[Bj];show _≤4294967296;simp;omega)
theorem mE{l:List Int}{j:Nat}(n:Int)(hj:j≤l.length)(hs:l.length<4000000000):AJ (.app 1) [siT (l.take j++[n]),si (l.drop (l.take j).length)]=some [some (siT (l.take j++[n]++l.drop j)),some (si (l.take j++[n]))]:=by
 have e:(l.take j).length=j:=by rw[Bj];omega
 rw[e];exact VH (l.take j++[n]) (l.drop j) false (by show _≤4294967296;simp;omega)
theorem eH(l:List Int)(k:Nat)(h:k≤l.length):AJ (.vsl 1 true false) [si l,N k]=some [some (si (l.drop k))]:=by
 show(Tt true false (ints l).length [N k]).map (fun x=>[some (PV.slice false 1 (((ints l).drop x.1).take (x.2 - x.1)))])=_
 have e:Tt true false (ints l).length [N k]=some (k,(ints l).length):=by
  have h1:(0:Int)≤(k:Nat)∧((k:Nat):Int)≤((ints l).length:Nat)∧(((ints l).length:Nat):Int)≤((ints l).length:Nat):=by
   rw[Am];omega
  simp only[Tt];simp[h,ints]
 rw[e];simp only[Ay];rw[BC (by simp),ints,←List.map_drop]
end
theorem ni{l:List Int}{n:Int}{j:Nat}(hb:∀i x,i<j→l[i]?=some x→x<n)(hj:j≤l.length)(he:∀x,l[j]?=some x→¬x<n):l.takeWhile (fun x=>decide (x<n))=l.take j∧l.dropWhile (fun x=>decide (x<n))=l.drop j:=by
 induction l generalizing j with
 |nil=>
  simp at hj;subst hj;exact⟨rfl,rfl⟩
 |cons a l ih=>
  cases j with
  |zero=>
   have:=he a rfl;simp[this]
  |succ j=>
   have ha:=hb 0 a (by omega) rfl
   obtain⟨h1,h2⟩:=ih (j:=j) (fun i x hi hx=>hb (i+1) x (by omega) (by simpa using hx)) (by simpa using hj) (fun x hx=>he x (by simpa using hx))
   simp[ha,h1,h2]
end Go.Abs.Z

namespace Go.Abs.Z
open PV
open Go.Proofs Go.RowKit
set_option linter.unusedVariables false
set_option linter.unusedSimpArgs false
variable{v:PV}{n x:Int}{j:Nat}
theorem R40:Rn 40 a40:=fun _ _ _=>by kernel_rfl
theorem R41:Rn 41 a41:=fun _ _ _=>by kernel_rfl
theorem R36:Rn 36 a36:=fun _ _ _=>by kernel_rfl
theorem R18:Rn 18 a18:=fun _ _ _=>by kernel_rfl
theorem AjV(L:LpE a40 0 [(0,v),(1,I n),(5,N 0)] [] .ret [(4,bool true)] []):E 40 [v,I n] [] (.bool true) []:=by
 exact rule R40 [sl 2 [0,1,5] L]
theorem wS(L:LpE a40 0 [(0,v),(1,I n),(5,N 0)] [] (.exit 0) [] []):E 40 [v,I n] [] (.bool false) []:=by
 exact rule R40 [sl 2 [0,1,5] L]
theorem wR{l:List Int}(hj:j<l.length)(hx:l[j]?=some x)(hs:l.length<4000000000)(hn:x≠n){e:Bt}{ff1:FF}{σ1:Sto}(hl:LpE a40 0 [(0,some (si l)),(1,I n),(5,N (j+1))] [] e ff1 σ1):LpE a40 0 [(0,some (si l)),(1,I n),(5,N j)] [] e ff1 σ1:=by
 exact ER [0,1,5] [sp 2 (Ga false l),sp 0 (Cm .i64 (show(j:Int) < (l.length:Int) by omega)),sp 3 (Dh (o:=false) hx),sp 2 (SY .i64 hn),sp 2 (Di j 1 (by omega))] hl
theorem AjU{l:List Int}(hj:j<l.length)(hx:l[j]?=some x)(hs:l.length<4000000000)(hn:x=n):LpE a40 0 [(0,some (si l)),(1,I n),(5,N j)] [] .ret [(4,bool true)] []:=by
 exact DR [4] [sp 2 (Ga false l),sp 0 (Cm .i64 (show(j:Int) < (l.length:Int) by omega)),sp 3 (Dh (o:=false) hx),sp 2 (vT .i64 hn)]
theorem AjT{l:List Int}(hj:¬j<l.length):LpE a40 0 [(0,some (si l)),(1,I n),(5,N j)] [] (.exit 0) [] []:=by
 exact DR [] [sp 2 (Ga false l),sp 0 (CY .i64 (show ¬(j:Int) < (l.length:Int) by omega))]
theorem AjS:LpE a40 0 [(0,nils),(1,I n),(5,N 0)] [] (.exit 0) [] []:=by
 exact DR [] []
theorem AjQ{l:List Int}(hv:Ls v l)(h:E 40 [v,I n] [] (.bool true) []):E 41 [v,I n] [] v []:=by
 rcases hv with rfl | ⟨rfl,rfl⟩<;>exact rule R41 [st 3 (oC h)] (by kernel_rfl)
theorem AjR{l:List Int}(h:E 40 [si l,I n] [] (.bool false) [])(hj:j≤l.length)(hs:l.length<4000000000)(L:LpE a41 0 [(0,some (si l)),(1,I n),(5,some (siT [])),(6,N 0)] [] (.exit 0) [(0,some (si l)),(1,I n),(5,some (siT (l.take j)))] []):E 41 [si l,I n] [] (si (l.take j++[n]++l.drop j)) []:=by
 exact rule R41 [st 3 (oC h),sl 4 [0,1,5,6] L,sp 1 (Ga false (l.take j)),sp 4 (VH (l.take j) [n] true (by rw[Bj];show _≤4294967296;simp;omega):AJ (.app 1) [siT (l.take j),siT [n]]=some [some (siT (l.take j++[n])),some (si (l.take j))]),sp 4 (eH l (l.take j).length (by rw[Bj];omega)),sp 0 (mE n hj hs)]
theorem AjO{l:List Int}(hj:j<l.length)(hx:l[j]?=some x)(hs:l.length<4000000000)(hn:x<n){e:Bt}{ff1:FF}{σ1:Sto}(hl:LpE a41 0 [(0,some (si l)),(1,I n),(5,some (siT (l.take (j+1)))),(6,N (j+1))] [] e ff1 σ1):LpE a41 0 [(0,some (si l)),(1,I n),(5,some (siT (l.take j))),(6,N j)] [] e ff1 σ1:=by
 exact ER [0,1,5,6] [sp 2 (Ga false l),sp 0 (Cm .i64 (show(j:Int) < (l.length:Int) by omega)),sq 3 (Dh (o:=false) hx),sq 2 (Cm .i64 hn),sp 5 (Dh (o:=false) hx),sp 2 (mD hx hs),sp 2 (Di j 1 (by omega))] hl
theorem AjM{l:List Int}(hj:j<l.length)(hx:l[j]?=some x)(hs:l.length<4000000000)(hn:¬x<n):LpE a41 0 [(0,some (si l)),(1,I n),(5,some (siT (l.take j))),(6,N j)] [] (.exit 0) [(0,some (si l)),(1,I n),(5,some (siT (l.take j)))] []:=by
 exact DR [0,1,5] [sp 2 (Ga false l),sp 0 (Cm .i64 (show(j:Int) < (l.length:Int) by omega)),sq 3 (Dh (o:=false) hx),sq 2 (CY .i64 hn)]
theorem AjN{l:List Int}(hj:¬j<l.length):LpE a41 0 [(0,some (si l)),(1,I n),(5,some (siT (l.take j))),(6,N j)] [] (.exit 0) [(0,some (si l)),(1,I n),(5,some (siT (l.take j)))] []:=by
 exact DR [0,1,5] [sp 2 (Ga false l),sp 0 (CY .i64 (show ¬(j:Int) < (l.length:Int) by omega))]
theorem AjP(h:E 40 [.nils,I n] [] (.bool false) [])(L:LpE a41 0 [(0,nils),(1,I n),(5,some (siT [])),(6,N 0)] [] (.exit 0) [(0,nils),(1,I n),(5,some (siT []))] []):E 41 [.nils,I n] [] (si [n]) []:=by
 exact rule R41 [st 3 (oC h),sl 4 [0,1,5,6] L]
theorem AjL:LpE a41 0 [(0,nils),(1,I n),(5,some (siT [])),(6,N 0)] [] (.exit 0) [(0,nils),(1,I n),(5,some (siT []))] []:=by
 exact DR [0,1,5] []
end Go.Abs.Z

namespace Go.Abs.Z
open Go.Proofs Go.RowKit
set_option linter.unusedVariables false
theorem j5{l:List Int}{n:Int}(hs:l.length<4000000000):∀(m j:Nat),m=l.length - j→j≤l.length→(∀i x,i<j→l[i]?=some x→x≠n)→
  (n∈l→LpE a40 0 [(0,some (si l)),(1,some (I n)),(5,some (N j))] [] .ret [(4,some (.bool true))] [])∧(n∉l→LpE a40 0 [(0,some (si l)),(1,some (I n)),(5,some (N j))] [] (.exit 0) [] [])
 |0,j,hm,hj,hb=>by
  have hjl:¬j<l.length:=by omega
  refine⟨fun h=>?_,fun _=>AjT hjl⟩
  obtain⟨i,hi,he⟩:=List.mem_iff_getElem.1 h;exact absurd he (hb i _ (by omega) (Ad hi))
 |m+1,j,hm,hj,hb=>by
  have hjl:j<l.length:=by omega
  have hx:=Ad hjl;by_cases hn:l[j]=n
  ·refine⟨fun _=>AjU hjl hx hs hn,fun h=>absurd (hn▸AQ hjl) h⟩
  ·obtain⟨h1,h2⟩:=j5 hs m (j+1) (by omega) (by omega) fun i x hi hx'=>by
    by_cases hij:i=j
    ·subst hij;rw[hx] at hx';cases hx';exact hn
    ·exact hb i x (by omega) hx'
   exact⟨fun h=>wR hjl hx hs hn (h1 h),fun h=>wR hjl hx hs hn (h2 h)⟩
theorem e40{v:PV}{l:List Int}(n:Int)(hv:Ls v l)(hs:l.length<4000000000):E 40 [v,I n] [] (.bool (decide (n∈l))) []:=by
 rcases hv with rfl | ⟨rfl,rfl⟩
 ·obtain⟨h1,h2⟩:=j5 (n:=n) hs l.length 0 (by omega) (by omega) (fun i x hi=>by omega)
  by_cases h:n∈l
  ·rw[decide_eq_true h];exact AjV (h1 h)
  ·rw[decide_eq_false h];exact wS (h2 h)
 ·rw[decide_eq_false (by simp)];exact wS AjS
theorem jZ{l:List Int}{n:Int}(hs:l.length<4000000000):∀(m j:Nat),m=l.length - j→j≤l.length→(∀i x,i<j→l[i]?=some x→x<n)→
  ∃j',j'≤l.length∧(∀i x,i<j'→l[i]?=some x→x<n)∧(∀x,l[j']?=some x→¬x<n)∧
   LpE a41 0 [(0,some (si l)),(1,some (I n)),(5,some (siT (l.take j))),(6,some (N j))] [] (.exit 0) [(0,some (si l)),(1,some (I n)),(5,some (siT (l.take j')))] []
 |0,j,hm,hj,hb=>by
  have hjl:¬j<l.length:=by omega
  exact⟨j,hj,hb,fun x hx=>absurd (Ab.1 hx).1 hjl,AjN hjl⟩
 |m+1,j,hm,hj,hb=>by
  have hjl:j<l.length:=by omega
  have hx:=Ad hjl;by_cases hn:l[j] < n
  ·obtain⟨j',h1,h2,h3,h4⟩:=jZ hs m (j+1) (by omega) (by omega) fun i x hi hx'=>by
    by_cases hij:i=j
    ·subst hij;rw[hx] at hx';cases hx';exact hn
    ·exact hb i x (by omega) hx'
   exact⟨j',h1,h2,h3,AjO hjl hx hs hn h4⟩
  ·exact⟨j,hj,hb,fun x hx'=>by rw[hx] at hx';cases hx';exact hn,AjM hjl hx hs hn⟩
theorem e41{v:PV}{l:List Int}(n:Int)(hv:Ls v l)(hs:l.length<4000000000):∃r,E 41 [v,I n] [] r []∧Ls r (I6 l n):=by
 have h40:=e40 n hv hs;by_cases hm:n∈l
 ·rw[decide_eq_true hm] at h40;exact⟨v,AjQ hv h40,by unfold I6;rw[if_pos hm];exact hv⟩
 ·rw[decide_eq_false hm] at h40;rcases hv with rfl | ⟨rfl,rfl⟩
  ·obtain⟨j,h1,h2,h3,h4⟩:=jZ (n:=n) hs l.length 0 (by omega) (by omega) (fun i x hi=>by omega)
   refine⟨_,AjR h40 h1 hs h4,.inl ?_⟩
   obtain⟨e1,e2⟩:=ni h2 h1 h3;unfold I6;rw[if_neg hm,e1,e2,BP];rfl
  ·exact⟨_,AjP h40 AjL,.inl rfl⟩
theorem cu(l:List Int)(n:Int):(I6 l n).length≤l.length+1:=by
 unfold I6;split
 ·omega
 ·have e:=congrArg List.length (List.takeWhile_append_dropWhile (p:=fun x=>decide (x<n)) (l:=l))
  simp only[AV,BI] at e ⊢;omega
end Go.Abs.Z

namespace Go.Abs.Z
open Go.Proofs Go.RowKit
set_option linter.unusedVariables false
def Lss(ws:List PV)(ls:List (List Int)):Prop:=ws.length=ls.length∧∀(i:Nat) (w:PV) (l:List Int),ws[i]?=some w→ls[i]?=some l→Ls w l
def Dk(v:PV)(ws:List PV)(ls:List (List Int)):Prop:=Lss ws ls∧(v=.slice false 1 ws∨(v=.nils∧ws=[]))
section
variable{v:PV}{ws:List PV}{ls:List (List Int)}{l:List Int}{σ:Sto}
theorem Dk.free(h:Dk v ws ls):v.free=true:=by rcases h.2 with rfl | ⟨rfl,_⟩<;>rfl
theorem Dk.flat(h:Dk v ws ls):v.flat=true:=by rcases h.2 with rfl | ⟨rfl,_⟩<;>rfl
theorem Dk.dis(h:Dk v ws ls):v.Ag=v:=by rcases h.2 with rfl | ⟨rfl,_⟩<;>rfl
theorem EX(h:Dk v ws ls):AJ .mv [v]=some [some v]:=NN h.free h.dis
theorem Hq(h:Dk v ws ls):AJ (.len false) [v]=some [some (N ls.length)]:=by
 rw[←h.1.1];rcases h.2 with rfl | ⟨rfl,rfl⟩<;>rfl
theorem Dk.get(h:Dk v ws ls){j:Nat}(hj:j<ls.length):∃w,ws[j]?=some w∧Ls w ls[j]∧v=.slice false 1 ws:=by
 have hw:j<ws.length:=by rw[h.1.1];exact hj
 refine⟨ws[j],Ad hw,h.1.2 j _ _ (Ad hw) (Ad hj),?_⟩
 rcases h.2 with rfl | ⟨rfl,rfl⟩
 ·rfl
 ·simp at hw
theorem Gb{j:Nat}{w:PV}(hw:ws[j]?=some w):AJ (.idx 1) [.slice false 1 ws,N j]=some [some (.vptr w)]:=iY _ _ _ _ _ hw
theorem Eg(h:Ls v l):BR (.ld 1 false) [.vptr v] σ=some [some v]:=by
 rcases h with rfl | ⟨rfl,_⟩<;>rfl
end
structure Pt where
 k:Int
 n:Int
 v:PV
 nx:List Int
 ok:Ls v nx
def Pt.pv(p:Pt):PV:=.agg [I p.k,I p.n,p.v]
def Cw(v:PV)(ps:List Pt):Prop:=v=.slice false 3 (ps.map Pt.pv)∨(v=.nils∧ps=[])
section
variable{v:PV}{ps:List Pt}{σ:Sto}
theorem Cw.free(h:Cw v ps):v.free=true:=by rcases h with rfl | ⟨rfl,_⟩<;>rfl
theorem Cw.flat(h:Cw v ps):v.flat=true:=by rcases h with rfl | ⟨rfl,_⟩<;>rfl
theorem Cw.dis(h:Cw v ps):v.Ag=v:=by rcases h with rfl | ⟨rfl,_⟩<;>rfl
theorem Cw.own(h:Cw v ps):v.D8=v:=by rcases h with rfl | ⟨rfl,_⟩<;>rfl
theorem DF(h:Cw v ps):AJ (.len false) [v]=some [some (N ps.length)]:=by
 rcases h with rfl | ⟨rfl,rfl⟩
 ·show some [some (PV.int .i64 ((ps.map Pt.pv).length:Nat))]=_;rw[Am]
 ·rfl
theorem Cw.CQ(h:Cw v ps){j:Nat}{p:Pt}(hp:ps[j]?=some p):v=.slice false 3 (ps.map Pt.pv):=by
 rcases h with rfl | ⟨rfl,rfl⟩
 ·rfl
 ·cases hp
theorem DW{j:Nat}{p:Pt}(hp:ps[j]?=some p):AJ (.idx 3) [.slice false 3 (ps.map Pt.pv),N j]=some [some (.vptr p.pv)]:=iY _ _ _ _ _ (by rw[Af,hp];rfl)
theorem Gc(p:Pt):AJ (.fa 2 1 false) [.vptr p.pv]=some [some (.vptr p.v)]:=by
 obtain⟨k,n,v,nx,h⟩:=p;rcases h with rfl | ⟨rfl,_⟩<;>rfl
theorem Xk{id:Nat}{v:PV}{ag:Bool}{n:Nat}(h:((σ[id]?).bind fun cs=>K9 cs 0 n ag)=some v)(hd:v.Ag=v):BR (.ld n ag) [.ref id 0] σ=some [some v]:=by
 simp only[BR];cases hc:σ[id]? with
 |none=>rw[hc] at h;cases h
 |some cs=>
  rw[hc,Dn] at h;dsimp only;rw[h,Ay,hd]
theorem Dj{id:Nat}(h:Cw v ps)(hσ:σ[id]?=some [v]):BR (.ld 1 false) [.ref id 0] σ=some [some v]:=by
 refine Xk ?_ h.dis
 rw[hσ];rcases h with rfl | ⟨rfl,_⟩<;>rfl
theorem E9{id:Nat}(h:Cw v ps)(hσ:σ[id]?=some [v]):BR (.ld 1 true) [.ref id 0] σ=some [some (.agg [v])]:=by
 refine Xk ?_ (by rcases h with rfl | ⟨rfl,_⟩<;>rfl)
 rw[hσ];rcases h with rfl | ⟨rfl,_⟩<;>rfl
end
end Go.Abs.Z

namespace Go.Abs.Z
open Go.Proofs Go.RowKit Go.ChangeShapes Go.WideShapes Go.ChangeAt
open Go.Proofs.YtbkjmbhabkkoeaaGreatDoor
set_option linter.unusedVariables false
theorem n3:Tryz.prog.cellsOf 3=1:=by kernel_rfl
theorem n36:Tryz.prog.cellsOf 36=1:=by kernel_rfl
theorem n39:Tryz.prog.cellsOf 39=3:=by kernel_rfl
theorem n22:Tryz.prog.cellsOf 22=1:=by kernel_rfl
theorem uV{α:Type}{l:List α}(h:l.length=1):∃a,l=[a]:=by
 match l,h with
 |[a],_=>exact⟨a,rfl⟩
theorem xG{α:Type}{l:List α}(h:l.length=3):∃a b c,l=[a,b,c]:=by
 match l,h with
 |[a,b,c],_=>exact⟨a,b,c,rfl⟩
theorem lZ{W:World}{a:Addr}{m j:Nat}{v:Value}(h:W.cell? ((a.add m).add j)=some v):W.cell? ⟨a.block,a.off+m+j,none⟩=some v∧a.block<W.heap.size∧(m+j=0→a.spot=none):=by
 obtain⟨b,off,spot⟩:=a
 have hb:((Addr.mk b off spot).add m).add j=⟨b,off+m+j,if m+j=0 then spot else none⟩:=by
  unfold Addr.add;by_cases h1:m=0<;>by_cases h2:j=0<;>simp[h1,h2]
 rw[hb] at h;unfold World.cell? at h ⊢;dsimp only at h ⊢
 split at h
 ·rename_i c e f hh
  have hlt:b<W.heap.size:=by
   rcases Cc b W.heap.size with h' | h'
   ·exact h'
   ·rw[Dx h'] at hh;cases hh
  refine⟨?_,hlt,fun h0=>?_⟩
  ·by_cases h0:(if m+j=0 then spot else none).isSome=true
   ·rw[if_pos h0] at h;cases h
   ·rw[if_neg h0] at h;simpa using h
  ·rw[if_pos h0] at h;cases spot with
   |none=>rfl
   |some s=>simp at h
 ·cases h
theorem Qo{α:Type}{Q:Nat→α→Prop}:∀(n:Nat),(∀i,i<n→∃t,Q i t)→∃l:List α,l.length=n∧∀(i:Nat) (t:α),l[i]?=some t→Q i t
 |0,_=>⟨[],rfl,fun i t h=>by simp at h⟩
 |n+1,h=>by
  obtain⟨l,hl,hq⟩:=Qo n fun i hi=>h i (by omega)
  obtain⟨t,ht⟩:=h n (by omega)
  refine⟨l++[t],by simp[hl],fun i u hu=>?_⟩
  rcases Cc i n with hi | hi
  ·rw[Ae (by omega)] at hu;exact hq i u hu
  ·rw[Al (by omega)] at hu
   have:i - l.length=0:=by
    rcases Nat.eq_zero_or_pos (i - l.length) with h0 | h0
    ·exact h0
    ·rw[AC (by simp;omega)] at hu;cases hu
   rw[this] at hu;cases hu;have:i=n:=by omega
   rw[this];exact ht
theorem VD{W:World}{base n:Nat}{a:Addr}{m:Nat}{vs:List Value}(h:W.cells? base (a.add m) n=some vs):∀(j:Nat) (v:Value),vs[j]?=some v→W.cell? ⟨a.block,a.off+m+j,none⟩=some v∧a.block<W.heap.size∧(m+j=0→a.spot=none):=by
 intro j v hv;unfold World.cells? at h
 split at h
 ·have hl:=mapM_some_length h
  have hj:j<n:=by
   rcases Cc j n with h' | h'
   ·exact h'
   ·rw[AC (by rw[hl];simpa using h')] at hv;cases hv
  have:=mapM_some_get h j j (by simp[hj])
  rw[hv] at this;exact lZ this
 ·cases h
theorem OA{W:World}{a:Addr}{len cap size:Nat}{es:List PV}(hl:es.length=len)(hcap:len≤cap)(h0:0<size)(hsz:∀(i:Nat) (e:PV),es[i]?=some e→e.cells.length=size)
  (hat:∀(i:Nat) (e:PV) (j:Nat) (p:PV),es[i]?=some e→e.cells[j]?=some p→∃v,W.cell? ⟨a.block,a.off+i * size+j,none⟩=some v∧Rep (IW W) W v p∧a.block<W.heap.size∧(i * size+j=0→a.spot=none)) :
  Rep (IW W) W (.slice (some a) len cap) (.slice false size es):=by
 refine .slice (fun i j=>(W.cell? ⟨a.block,a.off+i * size+j,none⟩).getD undef) hl.symm hcap ?_ hsz ?_ ?_ ?_
 ·intro hne;cases es with
  |nil=>exact absurd rfl hne
  |cons t ts=>
   have h5:(0:Nat) < t.cells.length:=by rw[hsz 0 t rfl];exact h0
   obtain⟨_,_,_,_,hsp⟩:=hat 0 t 0 _ rfl (Ad h5);exact hsp (by omega)
 ·intro i e j p he hp;obtain⟨_,_,_,hlt,_⟩:=hat i e j p he hp;exact hlt
 ·intro i e j p he hp;obtain⟨v,hv,_⟩:=hat i e j p he hp;rw[hv];rfl
 ·intro i e j p he hp;obtain⟨v,hv,hr,_⟩:=hat i e j p he hp;rw[hv];exact hr
theorem Oa{H:Type}:∀(es:List (DataW H)),es.length≤Rows.uptoBulkAll es
 |[]=>Fs _
 |e::es=>by
  have:=Oa es
  have h1:1≤Rows.uptoBulk e:=by
   unfold Rows.uptoBulk
   split<;>omega
  simp only[Rows.uptoBulkAll,BI];omega
theorem SF{H:Type}:∀(es:List (DataW H)) (i:Nat) (e:DataW H),es[i]?=some e→Rows.uptoBulk e≤Rows.uptoBulkAll es
 |[],i,e,h=>by simp at h
 |a::es,0,e,h=>by cases h;simp only[Rows.uptoBulkAll];omega
 |a::es,i+1,e,h=>by
  have:=SF es i e (by simpa using h)
  simp only[Rows.uptoBulkAll];omega
section
variable{H:Type}{enc:TypeId×Value→H}{W:World}{base:Nat}{sp:Nat→Bool}{held:Bool}
theorem TI{fuel:Nat}{v:Value}{y:DataW H×List MemPlace}(h:DataW.trod enc Tryz.prog W base sp held fuel 36 [v]=some y):
  ∃(pv:PV) (l:List Int),Ls pv l∧Rep (IW W) W v pv∧l.length≤Rows.uptoBulk y.1:=by
 rcases DataW.trod_slice Tryz.underlying36 h with⟨hkv,rfl⟩ | ⟨a,len,cap,elems,rest,m,rfl,hkv,rfl,_,hcap,_,hlen,hel,_,_⟩
 ·cases hkv;exact⟨.nils,[],.inr ⟨rfl,rfl⟩,.nils,Fs _⟩
 ·cases hkv
  have hall:∀i,i<len→∃k:Int,W.cells? base (a.add (i * 1)) 1=some [.int .i64 k]:=by
   intro i hi;have hi':=hel i hi;rw[n3] at hi';have hsome:elems[i]?=some (elems[i]'(by omega)):=Ad (by omega)
   rw[hsome] at hi';obtain⟨cs',hcs,htr⟩:=AO.1 hi';obtain⟨k,h0,_⟩:=DataW.trod_int Tryz.underlying3 htr;subst h0;exact⟨k,hcs⟩
  obtain⟨ks,hkl,hks⟩:=Qo len hall;refine⟨.slice false 1 (ks.map (PV.int .i64)),ks,.inl rfl,?_,?_⟩
  ·refine OA (by rw[Am,hkl]) hcap (by decide) (fun i e he=>?_) fun i e j p he hp=>?_
   ·rw[Af] at he;obtain⟨k,_,rfl⟩:=Ac.1 he;rfl
   ·rw[Af] at he;obtain⟨k,hk,rfl⟩:=Ac.1 he;have hc:=VD (hks i k hk)
    match j,hp with
    |0,hp=>cases hp;exact⟨_,(hc 0 _ rfl).1,.int _ _,(hc 0 _ rfl).2.1,(hc 0 _ rfl).2.2⟩
    |j+1,hp=>simp[PV.cells] at hp
  ·have:=Oa (elems.map (·.1));rw[Am] at this;simp only[Rows.uptoBulk];omega
theorem bz{fuel:Nat}{v:Value}{y:DataW H×List MemPlace}(h:DataW.trod enc Tryz.prog W base sp held fuel 25 [v]=some y):
  ∃(pv:PV) (ws:List PV) (ls:List (List Int)),Dk pv ws ls∧Rep (IW W) W v pv∧ls.length≤Rows.uptoBulk y.1∧∀l∈ls,l.length≤Rows.uptoBulk y.1:=by
 rcases DataW.trod_slice Tryz.underlying25 h with⟨hkv,rfl⟩ | ⟨a,len,cap,elems,rest,m,rfl,hkv,rfl,_,hcap,_,hlen,hel,_,_⟩
 ·cases hkv;exact⟨.nils,[],[],⟨⟨rfl,fun i w l h=>by simp at h⟩,.inr ⟨rfl,rfl⟩⟩,.nils,Fs _,fun l h=>by simp at h⟩
 ·cases hkv
  have hall:∀i,i<len→∃t:PV×List Int,∃(v:Value) (e:DataW H×List MemPlace),elems[i]?=some e∧W.cells? base (a.add (i * 1)) 1=some [v]∧Ls t.1 t.2∧Rep (IW W) W v t.1∧t.2.length≤Rows.uptoBulk e.1:=by
   intro i hi;have hi':=hel i hi;rw[n36] at hi';have hsome:elems[i]?=some (elems[i]'(by omega)):=Ad (by omega)
   rw[hsome] at hi';obtain⟨cs',hcs,htr⟩:=AO.1 hi'
   have hl1:cs'.length=1:=by
    unfold World.cells? at hcs
    split at hcs
    ·have:=mapM_some_length hcs;simpa using this
    ·cases hcs
   obtain⟨v,rfl⟩:=uV hl1;obtain⟨pv,l,h1,h2,h3⟩:=TI htr;exact⟨(pv,l),v,_,hsome,hcs,h1,h2,h3⟩
  obtain⟨ks,hkl,hks⟩:=Qo len hall;have hb:=Oa (elems.map (·.1));rw[Am] at hb;refine⟨.slice false 1 (ks.map (·.1)),ks.map (·.1),ks.map (·.2),⟨⟨by simp,fun i w l hw hl=>?_⟩,.inl rfl⟩,?_,?_,fun l hl=>?_⟩
  ·rw[Af] at hw hl;obtain⟨t,ht,rfl⟩:=Ac.1 hw;rw[ht] at hl;cases hl;obtain⟨_,_,_,_,h1,_⟩:=hks i t ht;exact h1
  ·refine OA (by rw[Am,hkl]) hcap (by decide) (fun i e he=>?_) fun i e j p he hp=>?_
   ·rw[Af] at he;obtain⟨t,ht,rfl⟩:=Ac.1 he;obtain⟨_,_,_,_,h1,_⟩:=hks i t ht;rcases h1 with h1 | ⟨h1,_⟩<;>rw[h1]<;>rfl
   ·rw[Af] at he;obtain⟨t,ht,rfl⟩:=Ac.1 he;obtain⟨v,_,_,hcs,h1,h2,_⟩:=hks i t ht;have hc:=VD hcs;have hcell:t.1.cells=[t.1]:=by rcases h1 with h1 | ⟨h1,_⟩<;>rw[h1]<;>rfl
    rw[hcell] at hp
    match j,hp with
    |0,hp=>cases hp;exact⟨_,(hc 0 _ rfl).1,h2,(hc 0 _ rfl).2.1,(hc 0 _ rfl).2.2⟩
    |j+1,hp=>simp at hp
  ·rw[Am];simp only[Rows.uptoBulk];omega
  ·obtain⟨i,he⟩:=Bb.1 hl;rw[Af] at he;obtain⟨t,ht,rfl⟩:=Ac.1 he;obtain⟨_,e,hse,_,_,_,h3⟩:=hks i t ht;have:=SF (elems.map (·.1)) i e.1 (by rw[Af,hse];rfl)
   simp only[Rows.uptoBulk];omega
end
end Go.Abs.Z

namespace Go.Abs.Z
open Go.Proofs Go.RowKit Go.ChangeShapes Go.WideShapes Go.ChangeAt
open Go.Proofs.YtbkjmbhabkkoeaaGreatDoor
set_option linter.unusedVariables false
section
variable{H:Type}{enc:TypeId×Value→H}{W:World}{base:Nat}{sp:Nat→Bool}{held:Bool}
theorem Yx{fuel:Nat}{cs:List Value}{x:DataW H×List MemPlace}(h:DataW.trod enc Tryz.prog W base sp held fuel 39 cs=some x):
  ∃(p:Pt) (kv:Value),cs=[.int .i64 p.k,.int .i64 p.n,kv]∧Rep (IW W) W kv p.v∧p.nx.length≤Rows.uptoBulk x.1:=by
 obtain⟨xs,n,rfl,rfl,hl,hlen,hf⟩:=DataW.trod_struct Tryz.underlying39 h;rw[n39] at hl;obtain⟨a,b,c,rfl⟩:=xG hl;obtain⟨x0,x1,x2,rfl⟩:=xG (l:=xs) hlen;have f0:=hf 0 _ rfl;have f1:=hf 1 _ rfl;have f2:=hf 2 _ rfl;simp[n3,n36] at f0 f1 f2;obtain⟨k,h0,rfl,_⟩:=DataW.trod_int Tryz.underlying3 f0;obtain⟨m,h1,rfl,_⟩:=DataW.trod_int Tryz.underlying3 f1;cases h0;cases h1;obtain⟨pv,l,h2,h3,h4⟩:=TI f2;refine⟨⟨k,m,pv,l,h2⟩,c,rfl,h3,?_⟩
 simp only[Rows.uptoBulk,Rows.uptoBulkAll,AR,Bh];show l.length≤_;omega
theorem iO(p:Pt):p.pv.cells=[I p.k,I p.n,p.v]:=rfl
theorem Wv{fuel:Nat}{v:Value}{y:DataW H×List MemPlace}(h:DataW.trod enc Tryz.prog W base sp held fuel 22 [v]=some y):
  ∃(pv:PV) (ps:List Pt),Cw pv ps∧Rep (IW W) W v pv∧ps.length≤Rows.uptoBulk y.1∧∀p∈ps,p.nx.length≤Rows.uptoBulk y.1:=by
 rcases DataW.trod_slice Tryz.underlying22 h with⟨hkv,rfl⟩ | ⟨a,len,cap,elems,rest,m,rfl,hkv,rfl,_,hcap,_,hlen,hel,_,_⟩
 ·cases hkv;exact⟨.nils,[],.inr ⟨rfl,rfl⟩,.nils,Fs _,fun l h=>by simp at h⟩
 ·cases hkv
  have hall:∀i,i<len→∃p:Pt,∃(kv:Value) (e:DataW H×List MemPlace),elems[i]?=some e∧W.cells? base (a.add (i * 3)) 3=some [.int .i64 p.k,.int .i64 p.n,kv]∧Rep (IW W) W kv p.v∧p.nx.length≤Rows.uptoBulk e.1:=by
   intro i hi;have hi':=hel i hi;rw[n39] at hi';have hsome:elems[i]?=some (elems[i]'(by omega)):=Ad (by omega)
   rw[hsome] at hi';obtain⟨cs',hcs,htr⟩:=AO.1 hi';obtain⟨p,kv,rfl,h1,h2⟩:=Yx htr;exact⟨p,kv,_,hsome,hcs,h1,h2⟩
  obtain⟨ks,hkl,hks⟩:=Qo len hall;have hb:=Oa (elems.map (·.1));rw[Am] at hb;refine⟨.slice false 3 (ks.map Pt.pv),ks,.inl rfl,?_,?_,fun p hp=>?_⟩
  ·refine OA (by rw[Am,hkl]) hcap (by decide) (fun i e he=>?_) fun i e j p he hp=>?_
   ·rw[Af] at he;obtain⟨t,ht,rfl⟩:=Ac.1 he;rfl
   ·rw[Af] at he;obtain⟨t,ht,rfl⟩:=Ac.1 he;obtain⟨kv,_,_,hcs,h1,_⟩:=hks i t ht;have hc:=VD hcs;rw[iO] at hp
    match j,hp with
    |0,hp=>cases hp;exact⟨_,(hc 0 _ rfl).1,.int _ _,(hc 0 _ rfl).2.1,(hc 0 _ rfl).2.2⟩
    |1,hp=>cases hp;exact⟨_,(hc 1 _ rfl).1,.int _ _,(hc 1 _ rfl).2.1,(hc 1 _ rfl).2.2⟩
    |2,hp=>cases hp;exact⟨_,(hc 2 _ rfl).1,h1,(hc 2 _ rfl).2.1,(hc 2 _ rfl).2.2⟩
    |j+3,hp=>simp at hp
  ·simp only[Rows.uptoBulk];omega
  ·obtain⟨i,he⟩:=Bb.1 hp;obtain⟨_,e,hse,_,_,h3⟩:=hks i p he;have:=SF (elems.map (·.1)) i e.1 (by rw[Af,hse];rfl)
   simp only[Rows.uptoBulk];omega
theorem bA{v:Value}{d:DataW H}{p:List MemPlace}(hag:∃cs,v=.agg cs)(h:DataW.Trod enc Tryz.prog W base sp held 24 v d p):
  ∃(pv:PV) (ps:List Pt),Cw pv ps∧Rep (IW W) W v (.agg [pv])∧ps.length≤Rows.uptoBulk d∧∀p∈ps,p.nx.length≤Rows.uptoBulk d:=by
 obtain⟨n,hn⟩:=h;obtain⟨xs,m,rfl,hx,hl,hlen,hf⟩:=DataW.trod_struct Tryz.underlying24 hn;rw[show Tryz.prog.cellsOf 24=1 from by kernel_rfl] at hl
 obtain⟨a,hv⟩:=uV hl;obtain⟨x0,rfl⟩:=uV (l:=xs) hlen;have f0:=hf 0 _ rfl;rw[hv] at f0;simp[n22] at f0;obtain⟨pv,ps,h1,h2,h3,h4⟩:=Wv f0
 have hd:Rows.uptoBulk x0.1≤Rows.uptoBulk d:=by
  have:=congrArg Prod.fst hx;dsimp only at this;rw[this];simp only[AR,Bh,Rows.uptoBulk,Rows.uptoBulkAll];omega
 refine⟨pv,ps,h1,?_,by omega,fun p hp=>by have:=h4 p hp;omega⟩
 cases v with
 |agg cs=>
  simp only[Value.cells] at hv;have e:Value.agg cs=.agg #[a]:=by rw[←BZ.1 (show cs.toList=#[a].toList from hv)]
  rw[e];refine .agg rfl fun i p hp=>?_
  match i with
  |0=>simp at hp;subst hp;exact h2
  |i+1=>simp at hp
 |_=>(obtain⟨cs,hc⟩:=hag;cases hc)
theorem Wu{v:Value}{d:DataW H}{p:List MemPlace}(hna:∀cs,v≠.agg cs)(h:DataW.Trod enc Tryz.prog W base sp held 25 v d p):
  ∃(pv:PV) (ws:List PV) (ls:List (List Int)),Dk pv ws ls∧Rep (IW W) W v pv∧ls.length≤Rows.uptoBulk d∧∀l∈ls,l.length≤Rows.uptoBulk d:=by
 obtain⟨n,hn⟩:=h
 have e:v.cells.toList=[v]:=by
  cases v with
  |agg cs=>exact absurd rfl (hna cs)
  |_=>rfl
 rw[e] at hn;obtain⟨pv,ws,ls,h1,h2,h3,h4⟩:=bz hn;exact⟨pv,ws,ls,h1,h2,h3,h4⟩
end
theorem Yw:Tryz.prog.readableRec 24=true:=by kernel_rfl
theorem wN:24<Tryz.prog.types.size:=of_decide_eq_true (by kernel_rfl)
theorem QT:Tryz.prog.readableRec 25=true:=by kernel_rfl
theorem qW:25<Tryz.prog.types.size:=of_decide_eq_true (by kernel_rfl)
theorem O4{t:TypeId}(hr:Tryz.prog.readableRec t=true)(ht:t<Tryz.prog.types.size){H:Type}{enc:TypeId×Value→H}{W W':World}{v:Value}{d:DataW H}{p:List MemPlace}(h:DataW.Trod enc Tryz.prog W 0 (fun _=>true) true t v d p)(hb:Below W.heap.size W W')(hlt:∀x∈p,x.block<W.heap.size)
  (sp:Nat→Bool) (hs:∀x∈p,sp x.block=true):DataW.Trod enc Tryz.prog W' 0 sp true t v d p:=
 WideElems.Trod_stays WS hr ht h (fun x hx=>hb.same (hlt x hx)) hs
end Go.Abs.Z

namespace Go.Abs.Z
open PV
open Go.Proofs Go.RowKit
set_option linter.unusedVariables false
set_option linter.unusedSimpArgs false
theorem V4(j:Nat)(h:0<j∧j<9000000000):AJ (.bin .sub 0) [N j,I 1]=some [some (N (j - 1))]:=by
 apply Ye;simp[IntKind.wrap,IntKind.bits,IntKind.signed];omega
theorem vv(a b:Nat):AJ (.bin .eql 0) [N a,N b]=some [some (.bool (decide (a=b)))]:=by
 rw[show decide (a=b)=decide ((a:Int)=(b:Int)) from decide_eq_decide.2 (by omega)]
 exact eqD .i64 _ _
section
variable{f:PV}{ps:List Pt}{σ:Sto}
theorem rY(h:Cw f ps):AJ .bx [.agg [f]]=some [some (.vptr (.agg [f]))]:=vM (by rcases h with rfl | ⟨rfl,_⟩<;>rfl)
theorem AxY(h:Cw f ps):AJ (.fa 0 1 false) [.vptr (.agg [f])]=some [some (.vptr f)]:=by rcases h with rfl | ⟨rfl,_⟩<;>rfl
theorem xK(h:Cw f ps):BR (.ld 1 false) [.vptr f] σ=some [some f]:=by rcases h with rfl | ⟨rfl,_⟩<;>rfl
end
variable{v f c r o:PV}{j:Nat}{x:Int}{ws:List PV}{σ:Sto}
theorem R11:Rn 11 a11:=fun _ _ _=>by kernel_rfl
theorem wU(L:LpE a36 0 [(0,v),(3,N 0)] [] (.exit 0) [] []):E 36 [v] [] (.bool true) []:=by
 exact rule R36 [sl 2 [0,3] L]
theorem Ak3(L:LpE a36 0 [(0,v),(3,N 0)] [] .ret [(2,bool false)] []):E 36 [v] [] (.bool false) []:=by
 exact rule R36 [sl 2 [0,3] L]
theorem q8{l:List Int}(h0:j=0)(hj:j<l.length)(hx:l[j]?=some x)(hs:l.length<4000000000)(h1:0≤x∧x<1024){e:Bt}{ff1:FF}{σ1:Sto}(hl:LpE a36 0 [(0,some (si l)),(3,N (j+1))] [] e ff1 σ1):LpE a36 0 [(0,some (si l)),(3,N j)] [] e ff1 σ1:=by
 exact ER [0,3] [sp 2 (Ga false l),sp 0 (Cm .i64 (show(j:Int) < (l.length:Int) by omega)),sp 3 (Dh (o:=false) hx),sp 1 (CY .i64 (show ¬x<0 by omega)),sq 3 (Dh (o:=false) hx),sq 1 (KP .i64 (show ¬x≥1024 by omega)),sq 3 (Ia .i64 (show ¬(j:Int) > 0 by omega)),sp 15 (Di j 1 (by omega))] hl
theorem wT{l:List Int}(hj:j<l.length)(hx:l[j]?=some x)(hs:l.length<4000000000){y:Int}(h0:0<j)(hy:l[j - 1]?=some y)(h1:0≤x∧x<1024)(h2:y<x){e:Bt}{ff1:FF}{σ1:Sto}(hl:LpE a36 0 [(0,some (si l)),(3,N (j+1))] [] e ff1 σ1):LpE a36 0 [(0,some (si l)),(3,N j)] [] e ff1 σ1:=by
 exact ER [0,3] [sp 2 (Ga false l),sp 0 (Cm .i64 (show(j:Int) < (l.length:Int) by omega)),sp 3 (Dh (o:=false) hx),sp 1 (CY .i64 (show ¬x<0 by omega)),sq 3 (Dh (o:=false) hx),sq 1 (KP .i64 (show ¬x≥1024 by omega)),sq 3 (KO .i64 (show(j:Int) > 0 by omega)),sq 3 (Dh (o:=false) hx),sq 3 (V4 j (by omega)),sq 0 (Dh (o:=false) hy),sq 1 (vS .i64 (show ¬x≤y by omega)),sp 4 (Di j 1 (by omega))] hl
theorem Ak2{l:List Int}(hj:j<l.length)(hx:l[j]?=some x)(hs:l.length<4000000000)(h1:x<0):LpE a36 0 [(0,some (si l)),(3,N j)] [] .ret [(2,bool false)] []:=by
 exact DR [2] [sp 2 (Ga false l),sp 0 (Cm .i64 (show(j:Int) < (l.length:Int) by omega)),sp 3 (Dh (o:=false) hx),sp 1 (Cm .i64 h1)]
theorem Ak1{l:List Int}(hj:j<l.length)(hx:l[j]?=some x)(hs:l.length<4000000000)(h1:0≤x)(h2:x≥1024):LpE a36 0 [(0,some (si l)),(3,N j)] [] .ret [(2,bool false)] []:=by
 exact DR [2] [sp 2 (Ga false l),sp 0 (Cm .i64 (show(j:Int) < (l.length:Int) by omega)),sp 3 (Dh (o:=false) hx),sp 1 (CY .i64 (show ¬x<0 by omega)),sq 3 (Dh (o:=false) hx),sq 1 (SV .i64 h2)]
theorem Ak0{l:List Int}(hj:j<l.length)(hx:l[j]?=some x)(hs:l.length<4000000000){y:Int}(h0:0<j)(hy:l[j - 1]?=some y)(h1:0≤x∧x<1024)(h2:x≤y):LpE a36 0 [(0,some (si l)),(3,N j)] [] .ret [(2,bool false)] []:=by
 exact DR [2] [sp 2 (Ga false l),sp 0 (Cm .i64 (show(j:Int) < (l.length:Int) by omega)),sp 3 (Dh (o:=false) hx),sp 1 (CY .i64 (show ¬x<0 by omega)),sq 3 (Dh (o:=false) hx),sq 1 (KP .i64 (show ¬x≥1024 by omega)),sq 3 (KO .i64 (show(j:Int) > 0 by omega)),sq 3 (Dh (o:=false) hx),sq 3 (V4 j (by omega)),sq 0 (Dh (o:=false) hy),sq 1 (vR .i64 h2)]
theorem AjZ{l:List Int}(hj:¬j<l.length):LpE a36 0 [(0,some (si l)),(3,N j)] [] (.exit 0) [] []:=by
 exact DR [] [sp 2 (Ga false l),sp 0 (CY .i64 (show ¬(j:Int) < (l.length:Int) by omega))]
theorem AjY  : LpE a36 0 [(0,nils),(3,N 0)] [] (.exit 0) [] []:=by
 exact DR [] []
theorem AvN{ls:List (List Int)}{ps:List Pt}(hv:Dk v ws ls)(hf:Cw f ps)(L:LpE a11 0 [(1,v),(2,vptr (.agg [f])),(5,N 0)] [] .ret [(4,bool false)] []):E 11 [.agg [f],v] [] (.bool false) []:=by
 exact rule R11 [sp 0 (rY hf),sl 2 [1,2,5] L]
theorem AvM{ls:List (List Int)}{ps:List Pt}(hv:Dk v ws ls)(hf:Cw f ps)(hs:ls.length<4000000000)(L:LpE a11 0 [(1,v),(2,vptr (.agg [f])),(5,N 0)] [] (.exit 0) [(1,v),(2,vptr (.agg [f]))] []):E 11 [.agg [f],v] [] (.bool (decide (ls.length=ps.length))) []:=by
 exact rule R11 [sp 0 (rY hf),sl 2 [1,2,5] L,sp 0 (EX hv),sp 0 (Hq hv),sp 0 (AxY hf),st 0 (Q (xK hf)),sp 0 (DF hf),sp 0 (vv ls.length ps.length)]
theorem xe{ls:List (List Int)}{ps:List Pt}(hv:Dk v ws ls)(hf:Cw f ps){w:PV}{l:List Int}{j:Nat}(hj:j<ls.length)(hs:ls.length<4000000000)(hw:ws[j]?=some w)(hwl:Ls w l)(he:v=.slice false 1 ws)(h:E 36 [w] [] (.bool true) []){e:Bt}{ff1:FF}{σ1:Sto}(hl:LpE a11 0 [(1,v),(2,vptr (.agg [f])),(5,N (j+1))] [] e ff1 σ1):LpE a11 0 [(1,v),(2,vptr (.agg [f])),(5,N j)] [] e ff1 σ1:=by
 exact ER [1,2,5] [sp 1 (EX hv),sp 0 (Hq hv),sp 0 (Cm .i64 (show(j:Int) < (ls.length:Int) by omega)),sp 1 (EX hv),sp 1 (by rw[he];exact Gb hw:AJ (.idx 1) [v,N j]=some [some (.vptr w)]),st 0 (Q (Eg hwl)),st 0 (oC h (hwl.AzL rfl rfl)),sp 3 (Di j 1 (by omega))] hl
theorem AvL{ls:List (List Int)}{ps:List Pt}(hv:Dk v ws ls)(hf:Cw f ps){w:PV}{l:List Int}{j:Nat}(hj:j<ls.length)(hs:ls.length<4000000000)(hw:ws[j]?=some w)(hwl:Ls w l)(he:v=.slice false 1 ws)(h:E 36 [w] [] (.bool false) []):LpE a11 0 [(1,v),(2,vptr (.agg [f])),(5,N j)] [] .ret [(4,bool false)] []:=by
 exact DR [4] [sp 1 (EX hv),sp 0 (Hq hv),sp 0 (Cm .i64 (show(j:Int) < (ls.length:Int) by omega)),sp 1 (EX hv),sp 1 (by rw[he];exact Gb hw:AJ (.idx 1) [v,N j]=some [some (.vptr w)]),st 0 (Q (Eg hwl)),st 0 (oC h (hwl.AzL rfl rfl))]
theorem AvK{ls:List (List Int)}{ps:List Pt}(hv:Dk v ws ls)(hf:Cw f ps){j:Nat}(hj:¬j<ls.length):LpE a11 0 [(1,v),(2,vptr (.agg [f])),(5,N j)] [] (.exit 0) [(1,v),(2,vptr (.agg [f]))] []:=by
 exact DR [1,2] [sp 1 (EX hv),sp 0 (Hq hv),sp 0 (CY .i64 (show ¬(j:Int) < (ls.length:Int) by omega))]
theorem q18{a g:PV}{k q:List Int}(hg:Ls g k)(hr:Ls r q)(L:LpE a18 0 [(0,a),(2,c),(7,g),(8,N 0)] σ (.exit 0) [(7,r)] σ):E 18 [a,g,c] σ r σ:=by
 rcases hr with rfl | ⟨rfl,_⟩<;>exact rule R18 [sp 1 (Gv hg),sp 0 (Gv hg),sl 1 [0,2,7,8] L] (by kernel_rfl)
theorem AvC{l:List Int}{k q kc:List Int}(hj:j<l.length)(hx:l[j]?=some x)(hs:l.length<4000000000)(ho:Ls o k)(hr:Ls r q)(hc:Ls c kc)(h1:E 40 [c,I x] [] (.bool false) [])(h2:E 41 [o,I x] [] r []){e:Bt}{ff1:FF}{σ1:Sto}(hl:LpE a18 0 [(0,some (si l)),(2,c),(7,r),(8,N (j+1))] σ e ff1 σ1):LpE a18 0 [(0,some (si l)),(2,c),(7,o),(8,N j)] σ e ff1 σ1:=by
 exact ER [0,2,7,8] [sp 2 (Ga false l),sp 0 (Cm .i64 (show(j:Int) < (l.length:Int) by omega)),sp 1 (Gv hc),sp 2 (Dh (o:=false) hx),st 1 (oCS σ h1 (hc.vV x rfl rfl)),sp 2 (Gv ho),sp 2 (Dh (o:=false) hx),st 1 (oCS σ h2 (ho.vV x hr.flat hr.dis)),sp 0 (Gv hr),sp 1 (Di j 1 (by omega))] hl
theorem AvB{l:List Int}{k q kc:List Int}(hj:j<l.length)(hx:l[j]?=some x)(hs:l.length<4000000000)(ho:Ls o k)(hr:Ls r q)(hc:Ls c kc)(h1:E 40 [c,I x] [] (.bool true) []){e:Bt}{ff1:FF}{σ1:Sto}(hl:LpE a18 0 [(0,some (si l)),(2,c),(7,o),(8,N (j+1))] σ e ff1 σ1):LpE a18 0 [(0,some (si l)),(2,c),(7,o),(8,N j)] σ e ff1 σ1:=by
 exact ER [0,2,7,8] [sp 2 (Ga false l),sp 0 (Cm .i64 (show(j:Int) < (l.length:Int) by omega)),sp 1 (Gv hc),sp 2 (Dh (o:=false) hx),st 1 (oCS σ h1 (hc.vV x rfl rfl)),sp 3 (Di j 1 (by omega))] hl
theorem AvA{l:List Int}(hj:¬j<l.length):LpE a18 0 [(0,some (si l)),(2,c),(7,o),(8,N j)] σ (.exit 0) [(7,o)] σ:=by
 exact DR [7] [sp 2 (Ga false l),sp 0 (CY .i64 (show ¬(j:Int) < (l.length:Int) by omega))]
theorem Av9:LpE a18 0 [(0,nils),(2,c),(7,o),(8,N 0)] σ (.exit 0) [(7,o)] σ:=by
 exact DR [7] []
end Go.Abs.Z

namespace Go.Abs.Z
open Go.Proofs Go.RowKit
set_option linter.unusedVariables false
def Tf(l:List Int)(j:Nat):Prop:=∀i x,i<j→l[i]?=some x→0≤x∧x<1024∧(0<i→∀y,l[i - 1]?=some y→y<x)
theorem Mj{l:List Int}:Tf l l.length↔Set' l:=by
 constructor
 ·intro h;refine⟨?_,fun x hx=>?_⟩
  ·have key:∀(i:Nat),i<l.length→∀(k:Nat),k<i→∀x y,l[k]?=some x→l[i]?=some y→x<y:=by
    intro i
    induction i with
    |zero=>intro _ k hk;omega
    |succ i ih=>
     intro hi k hk x y hx hy;obtain⟨_,_,h3⟩:=h (i+1) y hi hy;have h4:=h3 (by omega) l[i] (Ad (by omega))
     by_cases hki:k=i
     ·subst hki;rw[Ad (by omega)] at hx
      cases hx;exact h4
     ·have:=ih (by omega) k (by omega) x l[i] hx (Ad (by omega))
      omega
   unfold Srt;rw[Ec];intro i j hi hj hij;exact key j hj i hij _ _ (Ad hi) (Ad hj)
  ·obtain⟨i,hi,he⟩:=List.mem_iff_getElem.1 hx;obtain⟨h1,h2,_⟩:=h i x hi (by rw[Ad hi,he])
   exact⟨h1,h2⟩
 ·rintro⟨h1,h2⟩ i x hi hx
  obtain⟨h3,h4⟩:=h2 x (AA hx);refine⟨h3,h4,fun h0 y hy=>?_⟩
  unfold Srt at h1;rw[Ec] at h1;have hy':=(Ab.1 hy);have hx':=(Ab.1 hx);have:=h1 (i - 1) i hy'.1 hx'.1 (by omega)
  rw[hy'.2,hx'.2] at this;exact this
theorem YP{l:List Int}(hs:l.length<4000000000):∀(m j:Nat),m=l.length - j→j≤l.length→Tf l j→
  (Set' l∧LpE a36 0 [(0,some (si l)),(3,some (N j))] [] (.exit 0) [] [])∨(¬Set' l∧LpE a36 0 [(0,some (si l)),(3,some (N j))] [] .ret [(2,some (.bool false))] [])
 |0,j,hm,hj,hb=>by
  have hjl:j=l.length:=by omega
  subst hjl;exact .inl ⟨Mj.1 hb,AjZ (by omega)⟩
 |m+1,j,hm,hj,hb=>by
  have hjl:j<l.length:=by omega
  have hx:=Ad hjl;have no:¬(0≤l[j]∧l[j] < 1024∧(0<j→∀y,l[j - 1]?=some y→y<l[j]))→¬Set' l:=fun h hS=>h (Mj.2 hS j _ hjl hx)
  by_cases h1:l[j] < 0
  ·exact .inr ⟨no fun h=>by omega,Ak2 hjl hx hs h1⟩
  by_cases h2:l[j]≥1024
  ·exact .inr ⟨no fun h=>by omega,Ak1 hjl hx hs (by omega) h2⟩
  by_cases h0:j=0
  ·have hb':Tf l (j+1):=fun i x hi hx'=>by
    have:i=j:=by omega
    subst this;rw[hx] at hx';cases hx';exact⟨by omega,by omega,fun h=>by omega⟩
   rcases YP hs m (j+1) (by omega) (by omega) hb' with⟨h3,h4⟩ | ⟨h3,h4⟩
   ·exact .inl ⟨h3,q8 h0 hjl hx hs ⟨by omega,by omega⟩ h4⟩
   ·exact .inr ⟨h3,q8 h0 hjl hx hs ⟨by omega,by omega⟩ h4⟩
  ·have hy:l[j - 1]?=some (l[j - 1]'(by omega)):=Ad (by omega)
   by_cases h5:l[j - 1]'(by omega) < l[j]
   ·have hb':Tf l (j+1):=fun i x hi hx'=>by
     by_cases hij:i=j
     ·subst hij;rw[hx] at hx';cases hx';refine⟨by omega,by omega,fun _ y hy'=>?_⟩
      rw[hy] at hy';cases hy';exact h5
     ·exact hb i x (by omega) hx'
    rcases YP hs m (j+1) (by omega) (by omega) hb' with⟨h3,h4⟩ | ⟨h3,h4⟩
    ·exact .inl ⟨h3,wT hjl hx hs (by omega) hy ⟨by omega,by omega⟩ h5 h4⟩
    ·exact .inr ⟨h3,wT hjl hx hs (by omega) hy ⟨by omega,by omega⟩ h5 h4⟩
   ·exact .inr ⟨no fun h=>h5 (h.2.2 (by omega) _ hy),Ak0 hjl hx hs (by omega) hy ⟨by omega,by omega⟩ (by omega)⟩
open Classical in
theorem e36{v:PV}{l:List Int}(hv:Ls v l)(hs:l.length<4000000000):E 36 [v] [] (.bool (decide (Set' l))) []:=by
 rcases hv with rfl | ⟨rfl,rfl⟩
 ·rcases YP hs l.length 0 (by omega) (by omega) (fun i x hi=>by omega) with⟨h1,h2⟩ | ⟨h1,h2⟩
  ·rw[decide_eq_true h1];exact wU h2
  ·rw[decide_eq_false h1];exact Ak3 h2
 ·rw[decide_eq_true UK];exact wU AjY
def Dg(ls:List (List Int)):Prop:=∀l∈ls,Set' l
open Classical in
theorem kI{v f:PV}{ws:List PV}{ls:List (List Int)}{ps:List Pt}(hv:Dk v ws ls)(hf:Cw f ps)(hs:ls.length<4000000000)(hl:∀l∈ls,l.length<4000000000):∀(m j:Nat),m=ls.length - j→j≤ls.length→(∀i l,i<j→ls[i]?=some l→Set' l)→
  (Dg ls∧LpE a11 0 [(1,some v),(2,some (.vptr (.agg [f]))),(5,some (N j))] [] (.exit 0) [(1,some v),(2,some (.vptr (.agg [f])))] [])∨(¬Dg ls∧LpE a11 0 [(1,some v),(2,some (.vptr (.agg [f]))),(5,some (N j))] [] .ret [(4,some (.bool false))] [])
 |0,j,hm,hj,hb=>by
  refine .inl ⟨fun l hl=>?_,AvK hv hf (by omega)⟩
  obtain⟨i,he⟩:=Bb.1 hl;exact hb i l (by have:=(Ab.1 he).1;omega) he
 |m+1,j,hm,hj,hb=>by
  have hjl:j<ls.length:=by omega
  obtain⟨w,hw,hwl,he⟩:=hv.get hjl;have h36:=e36 hwl (hl _ (AQ hjl));by_cases h1:Set' ls[j]
  ·rw[decide_eq_true h1] at h36
   rcases kI hv hf hs hl m (j+1) (by omega) (by omega) (fun i l hi hx=>by
    by_cases hij:i=j
    ·subst hij;rw[Ad hjl] at hx;cases hx;exact h1
    ·exact hb i l (by omega) hx) with⟨h3,h4⟩ | ⟨h3,h4⟩
   ·exact .inl ⟨h3,xe hv hf hjl hs hw hwl he h36 h4⟩
   ·exact .inr ⟨h3,xe hv hf hjl hs hw hwl he h36 h4⟩
  ·rw[decide_eq_false h1] at h36;exact .inr ⟨fun h=>h1 (h _ (AQ hjl)),AvL hv hf hjl hs hw hwl he h36⟩
open Classical in
theorem e11{v f:PV}{ws:List PV}{ls:List (List Int)}{ps:List Pt}(hv:Dk v ws ls)(hf:Cw f ps)(hs:ls.length<4000000000)(hl:∀l∈ls,l.length<4000000000):E 11 [.agg [f],v] [] (.bool (decide (Dg ls∧ls.length=ps.length))) []:=by
 rcases kI hv hf hs hl ls.length 0 (by omega) (by omega) (fun i x hi=>by omega) with⟨h1,h2⟩ | ⟨h1,h2⟩
 ·have:=AvM hv hf hs h2;have e:decide (Dg ls∧ls.length=ps.length)=decide (ls.length=ps.length):=decide_eq_decide.2 ⟨fun h=>h.2,fun h=>⟨h1,h⟩⟩
  rw[e];exact this
 ·rw[decide_eq_false fun h=>h1 h.1];exact AvN hv hf h2
theorem YQ{σ:Sto}{l kc:List Int}{c:PV}(hc:Ls c kc)(hs:l.length<4000000000)(hkc:kc.length<4000000000):∀(m j:Nat) (o:PV) (k:List Int),m=l.length - j→j≤l.length→Ls o k→k.length+l.length<4000000000+j→
  ∃r,Ls r (Ih (l.drop j) k kc)∧LpE a18 0 [(0,some (si l)),(2,some c),(7,some o),(8,some (N j))] σ (.exit 0) [(7,some r)] σ
 |0,j,o,k,hm,hj,ho,hk=>by
  refine⟨o,?_,AvA (by omega)⟩
  rw[Dw (by omega)];exact ho
 |m+1,j,o,k,hm,hj,ho,hk=>by
  have hjl:j<l.length:=by omega
  have hx:=Ad hjl;have h40:=e40 l[j] hc hkc
  have e:Ih (l.drop j) k kc=Ih (l.drop (j+1)) (if l[j]∈kc then k else I6 k l[j]) kc:=by
   rw[BB hjl];rfl
  rw[e];by_cases h1:l[j]∈kc
  ·rw[decide_eq_true h1] at h40;rw[if_pos h1];obtain⟨r,h2,h3⟩:=YQ hc hs hkc m (j+1) o k (by omega) (by omega) ho (by omega)
   exact⟨r,h2,AvB hjl hx hs ho ho hc h40 h3⟩
  ·rw[decide_eq_false h1] at h40;rw[if_neg h1];obtain⟨r1,h4,h5⟩:=e41 l[j] ho (by omega)
   have:=cu k l[j];obtain⟨r,h2,h3⟩:=YQ hc hs hkc m (j+1) r1 (I6 k l[j]) (by omega) (by omega) h5 (by omega)
   exact⟨r,h2,AvC hjl hx hs ho h5 hc h40 h4 h3⟩
theorem e18{a g c:PV}{l k kc:List Int}(σ:Sto)(ha:Ls a l)(hg:Ls g k)(hc:Ls c kc)(hs:k.length+l.length<4000000000)(hkc:kc.length<4000000000):∃r,E 18 [a,g,c] σ r σ∧Ls r (Ih l k kc):=by
 rcases ha with rfl | ⟨rfl,rfl⟩
 ·obtain⟨r,h1,h2⟩:=YQ (σ:=σ) (l:=l) hc (by omega) hkc l.length 0 g k (by omega) (by omega) hg (by omega)
  exact⟨r,q18 hg h1 h2,h1⟩
 ·exact⟨g,q18 hg hg Av9,hg⟩
end Go.Abs.Z

namespace Go.Abs.Z
open Go.Proofs Go.RowKit
set_option linter.unusedVariables false
structure Rd(τ:Sto)(v:PV)(l:List Int):Prop where
 free:v.free=true
 dis:v.Ag=v
 len:AJ (.len false) [v]=some [some (N l.length)]
 idx:∀(k:Nat) (x:Int),l[k]?=some x→∃p,AJ (.idx 1) [v,N k]=some [some p]∧BR (.ld 1 false) [p] τ=some [some (I x)]
structure Rdd(τ:Sto)(v:PV)(ls:List (List Int)):Prop where
 free:v.free=true
 dis:v.Ag=v
 len:AJ (.len false) [v]=some [some (N ls.length)]
 idx:∀(j:Nat) (l:List Int),ls[j]?=some l→∃p w,AJ (.idx 1) [v,N j]=some [some p]∧BR (.ld 1 false) [p] τ=some [some w]∧Rd τ w l
section
variable{τ:Sto}{v:PV}{l:List Int}{ls:List (List Int)}
theorem Rd.mv(h:Rd τ v l):AJ .mv [v]=some [some v]:=NN h.free h.dis
theorem Rdd.mv(h:Rdd τ v ls):AJ .mv [v]=some [some v]:=NN h.free h.dis
theorem Ls.rd(h:Ls v l):Rd τ v l:=⟨h.free,h.dis,E8 h,fun k x hx=>⟨_,by rw[h.CQ hx];exact Dh hx,rfl⟩⟩
theorem FN{f:PV}{ps:List Pt}(h:Cw f ps):EM pur run (.w .bxO) [.agg [f]] τ [some (.ref τ.length 0)] (τ++[[f]]):=by
 refine⟨0,fun n _=>?_⟩
 rcases h with rfl | ⟨rfl,_⟩<;>rfl
theorem Bp{o:List PV}:(τ++[o])[τ.length]?=some o:=List.getElem?_concat_length
end
end Go.Abs.Z

namespace Go.Abs.Z
open PV
open Go.Proofs Go.RowKit
set_option linter.unusedVariables false
set_option linter.unusedSimpArgs false
variable{τ τ2:Sto}{f a c:PV}{m:Int}{b:Bool}{i:Nat}
theorem AvZ(a b:Int):AJ (.bin .leq 0) [I a,I b]=some [some (.bool (decide (a≤b)))]:=rfl
theorem R25:Rn 25 a25:=fun _ _ _=>by kernel_rfl
theorem R6:Rn 6 a6:=fun _ _ _=>by kernel_rfl
theorem R34:Rn 34 a34:=fun _ _ _=>by kernel_rfl
theorem R9:Rn 9 a9:=fun _ _ _=>by kernel_rfl
theorem R35:Rn 35 a35:=fun _ _ _=>by kernel_rfl
theorem R10:Rn 10 a10:=fun _ _ _=>by kernel_rfl
theorem Av8{ps:List Pt}(hf:Cw f ps)(L:LpE a25 0 [(1,I m),(2,ref τ.length 0),(5,N 0)] (τ++[[f]]) .ret [(4,bool false)] (τ++[[f]])):E 25 [.agg [f],I m] τ (.bool false) (τ++[[f]]):=by
 exact rule R25 [st 0 (FN (τ:=τ) hf),sl 2 [1,2,5] L]
theorem Av7{ps:List Pt}(hf:Cw f ps)(L:LpE a25 0 [(1,I m),(2,ref τ.length 0),(5,N 0)] (τ++[[f]]) (.exit 0) [(1,I m),(2,ref τ.length 0)] (τ++[[f]])):E 25 [.agg [f],I m] τ (.bool (decide ((ps.length:Int)≤m))) (τ++[[f]]):=by
 exact rule R25 [st 0 (FN (τ:=τ) hf),sl 2 [1,2,5] L,st 1 (QS (τ++[[f]]) (Dj hf Bp)),sp 0 (DF hf),sp 1 (AvZ (ps.length:Int) m)]
theorem xc{ps:List Pt}{m:Int}{i:Nat}(hf:Cw f ps)(hi:τ[i]?=some [f]){j:Nat}{p:Pt}(hj:j<ps.length)(hs:ps.length<4000000000)(hp:ps[j]?=some p)(h8:¬p.nx.length>8){e:Bt}{ff1:FF}{σ1:Sto}(hl:LpE a25 0 [(1,I m),(2,ref i 0),(5,N (j+1))] τ e ff1 σ1):LpE a25 0 [(1,I m),(2,ref i 0),(5,N j)] τ e ff1 σ1:=by
 exact ER [1,2,5] [st 2 (QS τ (Dj hf hi)),sp 0 (DF hf),sp 0 (Cm .i64 (show(j:Int) < (ps.length:Int) by omega)),st 2 (QS τ (Dj hf hi)),sp 1 (by rw[hf.CQ hp];exact DW hp:AJ (.idx 3) [f,N j]=some [some (.vptr p.pv)]),sp 0 (Gc p),st 0 (QS τ (Eg p.ok)),sp 0 (E8 p.ok),sp 0 (Ia .i64 (show ¬(p.nx.length:Int) > 8 by omega)),sp 2 (Di j 1 (by omega))] hl
theorem Av6{ps:List Pt}{m:Int}{i:Nat}(hf:Cw f ps)(hi:τ[i]?=some [f]){j:Nat}{p:Pt}(hj:j<ps.length)(hs:ps.length<4000000000)(hp:ps[j]?=some p)(h8:p.nx.length>8):LpE a25 0 [(1,I m),(2,ref i 0),(5,N j)] τ .ret [(4,bool false)] τ:=by
 exact DR [4] [st 2 (QS τ (Dj hf hi)),sp 0 (DF hf),sp 0 (Cm .i64 (show(j:Int) < (ps.length:Int) by omega)),st 2 (QS τ (Dj hf hi)),sp 1 (by rw[hf.CQ hp];exact DW hp:AJ (.idx 3) [f,N j]=some [some (.vptr p.pv)]),sp 0 (Gc p),st 0 (QS τ (Eg p.ok)),sp 0 (E8 p.ok),sp 0 (KO .i64 (show(p.nx.length:Int) > 8 by omega))]
theorem Av5{ps:List Pt}{m:Int}{i:Nat}(hf:Cw f ps)(hi:τ[i]?=some [f]){j:Nat}(hj:¬j<ps.length):LpE a25 0 [(1,I m),(2,ref i 0),(5,N j)] τ (.exit 0) [(1,I m),(2,ref i 0)] τ:=by
 exact DR [1,2] [st 2 (QS τ (Dj hf hi)),sp 0 (DF hf),sp 0 (CY .i64 (show ¬(j:Int) < (ps.length:Int) by omega))]
theorem q6{ps:List Pt}(hf:Cw f ps)(h:E 25 [.agg [f],I m] (τ++[[f]]) (.bool b) τ2):E 6 [.agg [f],I m] τ (.bool b) τ2:=by
 exact rule R6 [st 0 (FN (τ:=τ) hf),st 1 (QS (τ++[[f]]) (E9 hf Bp)),st 1 (oW h (by kernel_rfl) ⟨by rcases hf with rfl | ⟨rfl,_⟩<;>rfl,rfl,rfl⟩)]
theorem AkL{la mm:List (List Int)}(ha:Rdd τ a la)(hc:Rdd τ c mm)(h:la.length≠mm.length):E 34 [a,c] τ (.bool false) τ:=by
 exact rule R34 [sp 1 ha.mv,sp 0 ha.len,sp 0 hc.mv,sp 0 hc.len,sp 0 (SS .i64 (show(la.length:Int)≠(mm.length:Int) by omega))]
theorem AkK{la mm:List (List Int)}(ha:Rdd τ a la)(hc:Rdd τ c mm)(h:la.length=mm.length)(L:LpE a34 0 [(0,a),(1,c),(5,N 0)] τ .ret [(4,bool false)] τ):E 34 [a,c] τ (.bool false) τ:=by
 exact rule R34 [sp 1 ha.mv,sp 0 ha.len,sp 0 hc.mv,sp 0 hc.len,sp 0 (IJ .i64 (show(la.length:Int)=(mm.length:Int) by omega)),sl 2 [0,1,5] L]
theorem AkJ{la mm:List (List Int)}(ha:Rdd τ a la)(hc:Rdd τ c mm)(h:la.length=mm.length)(L:LpE a34 0 [(0,a),(1,c),(5,N 0)] τ (.exit 0) [] τ):E 34 [a,c] τ (.bool true) τ:=by
 exact rule R34 [sp 1 ha.mv,sp 0 ha.len,sp 0 hc.mv,sp 0 hc.len,sp 0 (IJ .i64 (show(la.length:Int)=(mm.length:Int) by omega)),sl 2 [0,1,5] L]
theorem AkG{la mm:List (List Int)}(ha:Rdd τ a la)(hc:Rdd τ c mm){j:Nat}{p q w u:PV}{l m:List Int}(hj:j<la.length)(hs:la.length<4000000000)(ip:AJ (.idx 1) [a,N j]=some [some p])(lp:BR (.ld 1 false) [p] τ=some [some w])(hw:Rd τ w l)(iq:AJ (.idx 1) [c,N j]=some [some q])(lq:BR (.ld 1 false) [q] τ=some [some u])(hu:Rd τ u m)(h:l.length≠m.length):LpE a34 0 [(0,a),(1,c),(5,N j)] τ .ret [(4,bool false)] τ:=by
 exact DR [4] [sp 1 ha.mv,sp 0 ha.len,sp 0 (Cm .i64 (show(j:Int) < (la.length:Int) by omega)),sp 1 ha.mv,sp 1 ip,st 0 (QS τ lp),sp 0 hw.len,sp 0 hc.mv,sp 1 iq,st 0 (QS τ lq),sp 0 hu.len,sp 0 (SS .i64 (show(l.length:Int)≠(m.length:Int) by omega))]
theorem wX{la mm:List (List Int)}(ha:Rdd τ a la)(hc:Rdd τ c mm){j:Nat}{p q w u:PV}{l m:List Int}(hj:j<la.length)(hs:la.length<4000000000)(ip:AJ (.idx 1) [a,N j]=some [some p])(lp:BR (.ld 1 false) [p] τ=some [some w])(hw:Rd τ w l)(iq:AJ (.idx 1) [c,N j]=some [some q])(lq:BR (.ld 1 false) [q] τ=some [some u])(hu:Rd τ u m)(h:l.length=m.length)(L:LpE a34 1 [(0,a),(1,c),(5,N j),(6,N 0)] τ (.exit 2) [(0,a),(1,c),(5,N j)] τ){e:Bt}{ff1:FF}{σ1:Sto}(hl:LpE a34 0 [(0,a),(1,c),(5,N (j+1))] τ e ff1 σ1):LpE a34 0 [(0,a),(1,c),(5,N j)] τ e ff1 σ1:=by
 exact ER [0,1,5] [sp 1 ha.mv,sp 0 ha.len,sp 0 (Cm .i64 (show(j:Int) < (la.length:Int) by omega)),sp 1 ha.mv,sp 1 ip,st 0 (QS τ lp),sp 0 hw.len,sp 0 hc.mv,sp 1 iq,st 0 (QS τ lq),sp 0 hu.len,sp 0 (IJ .i64 (show(l.length:Int)=(m.length:Int) by omega)),sl 2 [0,1,5,6] L,sp 1 (Di j 1 (by omega))] hl
theorem AkF{la mm:List (List Int)}(ha:Rdd τ a la)(hc:Rdd τ c mm){j:Nat}{p q w u:PV}{l m:List Int}(hj:j<la.length)(hs:la.length<4000000000)(ip:AJ (.idx 1) [a,N j]=some [some p])(lp:BR (.ld 1 false) [p] τ=some [some w])(hw:Rd τ w l)(iq:AJ (.idx 1) [c,N j]=some [some q])(lq:BR (.ld 1 false) [q] τ=some [some u])(hu:Rd τ u m)(h:l.length=m.length)(L:LpE a34 1 [(0,a),(1,c),(5,N j),(6,N 0)] τ .ret [(4,bool false)] τ):LpE a34 0 [(0,a),(1,c),(5,N j)] τ .ret [(4,bool false)] τ:=by
 exact DR [4] [sp 1 ha.mv,sp 0 ha.len,sp 0 (Cm .i64 (show(j:Int) < (la.length:Int) by omega)),sp 1 ha.mv,sp 1 ip,st 0 (QS τ lp),sp 0 hw.len,sp 0 hc.mv,sp 1 iq,st 0 (QS τ lq),sp 0 hu.len,sp 0 (IJ .i64 (show(l.length:Int)=(m.length:Int) by omega)),sl 2 [0,1,5,6] L]
theorem AkE{la mm:List (List Int)}(ha:Rdd τ a la)(hc:Rdd τ c mm){j:Nat}(hj:¬j<la.length):LpE a34 0 [(0,a),(1,c),(5,N j)] τ (.exit 0) [] τ:=by
 exact DR [] [sp 1 ha.mv,sp 0 ha.len,sp 0 (CY .i64 (show ¬(j:Int) < (la.length:Int) by omega))]
theorem wY{la mm:List (List Int)}(ha:Rdd τ a la)(hc:Rdd τ c mm){j:Nat}{p q w u:PV}{l m:List Int}(hj:j<la.length)(hs:la.length<4000000000)(ip:AJ (.idx 1) [a,N j]=some [some p])(lp:BR (.ld 1 false) [p] τ=some [some w])(hw:Rd τ w l)(iq:AJ (.idx 1) [c,N j]=some [some q])(lq:BR (.ld 1 false) [q] τ=some [some u])(hu:Rd τ u m){k:Nat}{x y:Int}{p1 p2:PV}(hk:k<l.length)(hlen:l.length<4000000000)(i1:AJ (.idx 1) [w,N k]=some [some p1])(l1:BR (.ld 1 false) [p1] τ=some [some (I x)])(i2:AJ (.idx 1) [u,N k]=some [some p2])(l2:BR (.ld 1 false) [p2] τ=some [some (I y)])(h:x=y){e:Bt}{ff1:FF}{σ1:Sto}(hl:LpE a34 1 [(0,a),(1,c),(5,N j),(6,N (k+1))] τ e ff1 σ1):LpE a34 1 [(0,a),(1,c),(5,N j),(6,N k)] τ e ff1 σ1:=by
 exact ER [0,1,5,6] [sp 1 ha.mv,sp 1 ip,st 0 (QS τ lp),sp 0 hw.len,sp 0 (Cm .i64 (show(k:Int) < (l.length:Int) by omega)),sp 1 ha.mv,sp 1 ip,st 0 (QS τ lp),sp 1 i1,st 0 (QS τ l1),sp 0 hc.mv,sp 1 iq,st 0 (QS τ lq),sp 1 i2,st 0 (QS τ l2),sp 0 (IJ .i64 h),sp 2 (Di k 1 (by omega))] hl
theorem AkI{la mm:List (List Int)}(ha:Rdd τ a la)(hc:Rdd τ c mm){j:Nat}{p q w u:PV}{l m:List Int}(hj:j<la.length)(hs:la.length<4000000000)(ip:AJ (.idx 1) [a,N j]=some [some p])(lp:BR (.ld 1 false) [p] τ=some [some w])(hw:Rd τ w l)(iq:AJ (.idx 1) [c,N j]=some [some q])(lq:BR (.ld 1 false) [q] τ=some [some u])(hu:Rd τ u m){k:Nat}{x y:Int}{p1 p2:PV}(hk:k<l.length)(hl:l.length<4000000000)(i1:AJ (.idx 1) [w,N k]=some [some p1])(l1:BR (.ld 1 false) [p1] τ=some [some (I x)])(i2:AJ (.idx 1) [u,N k]=some [some p2])(l2:BR (.ld 1 false) [p2] τ=some [some (I y)])(h:x≠y):LpE a34 1 [(0,a),(1,c),(5,N j),(6,N k)] τ .ret [(4,bool false)] τ:=by
 exact DR [4] [sp 1 ha.mv,sp 1 ip,st 0 (QS τ lp),sp 0 hw.len,sp 0 (Cm .i64 (show(k:Int) < (l.length:Int) by omega)),sp 1 ha.mv,sp 1 ip,st 0 (QS τ lp),sp 1 i1,st 0 (QS τ l1),sp 0 hc.mv,sp 1 iq,st 0 (QS τ lq),sp 1 i2,st 0 (QS τ l2),sp 0 (SS .i64 h)]
theorem AkH{la mm:List (List Int)}(ha:Rdd τ a la)(hc:Rdd τ c mm){j:Nat}{p q w u:PV}{l m:List Int}(hj:j<la.length)(hs:la.length<4000000000)(ip:AJ (.idx 1) [a,N j]=some [some p])(lp:BR (.ld 1 false) [p] τ=some [some w])(hw:Rd τ w l)(iq:AJ (.idx 1) [c,N j]=some [some q])(lq:BR (.ld 1 false) [q] τ=some [some u])(hu:Rd τ u m){k:Nat}(hk:¬k<l.length):LpE a34 1 [(0,a),(1,c),(5,N j),(6,N k)] τ (.exit 2) [(0,a),(1,c),(5,N j)] τ:=by
 exact DR [0,1,5] [sp 1 ha.mv,sp 1 ip,st 0 (QS τ lp),sp 0 hw.len,sp 0 (CY .i64 (show ¬(k:Int) < (l.length:Int) by omega))]
theorem q9{la mm:List (List Int)}(ha:Rdd τ a la)(hc:Rdd τ c mm){b:Bool}(h:E 34 [a,c] τ (.bool b) τ):E 9 [a,c] τ (.bool b) τ:=by
 exact rule R9 [sp 1 ha.mv,sp 0 hc.mv,st 0 (oW h (by kernel_rfl) ⟨by simp[ha.dis,hc.dis],by simp[ha.free,hc.free],rfl⟩)]
theorem AkB{ps:List Pt}(hf:Cw f ps)(h:ps.length<2):E 35 [.agg [f]] τ (.bool false) (τ++[[f]]):=by
 exact rule R35 [st 0 (FN (τ:=τ) hf),st 2 (QS (τ++[[f]]) (Dj hf Bp)),sp 0 (DF hf),sp 2 (Cm .i64 (show(ps.length:Int) < 2 by omega))]
theorem AkA{ps:List Pt}(hf:Cw f ps)(h:¬ps.length<2)(h2:ps.length>1024):E 35 [.agg [f]] τ (.bool false) (τ++[[f]]):=by
 exact rule R35 [st 0 (FN (τ:=τ) hf),st 2 (QS (τ++[[f]]) (Dj hf Bp)),sp 0 (DF hf),sp 2 (CY .i64 (show ¬(ps.length:Int) < 2 by omega)),sq 2 (KO .i64 (show(ps.length:Int) > 1024 by omega))]
theorem Ak9{ps:List Pt}{p:Pt}(hf:Cw f ps)(h:¬ps.length<2)(h2:¬ps.length>1024)(hp:ps[1]?=some p)(h3:p.nx.length>0):E 35 [.agg [f]] τ (.bool false) (τ++[[f]]):=by
 exact rule R35 [st 0 (FN (τ:=τ) hf),st 2 (QS (τ++[[f]]) (Dj hf Bp)),sp 0 (DF hf),sp 2 (CY .i64 (show ¬(ps.length:Int) < 2 by omega)),sq 2 (Ia .i64 (show ¬(ps.length:Int) > 1024 by omega)),sg 3 (QS (τ++[[f]]) (Dj hf Bp)),sq 0 (by rw[hf.CQ hp];exact DW hp:AJ (.idx 3) [f,N 1]=some [some (.vptr p.pv)]),sq 0 (Gc p),sg 0 (QS (τ++[[f]]) (Eg p.ok)),sq 0 (E8 p.ok),sq 0 (KO .i64 (show(p.nx.length:Int) > 0 by omega))]
theorem AkD{ps:List Pt}{p:Pt}(hf:Cw f ps)(h:¬ps.length<2)(h2:¬ps.length>1024)(hp:ps[1]?=some p)(h3:¬p.nx.length>0)(L:LpE a35 0 [(1,ref τ.length 0),(3,N ps.length),(4,N 0)] (τ++[[f]]) .ret [(2,bool false)] (τ++[[f]])):E 35 [.agg [f]] τ (.bool false) (τ++[[f]]):=by
 exact rule R35 [st 0 (FN (τ:=τ) hf),st 2 (QS (τ++[[f]]) (Dj hf Bp)),sp 0 (DF hf),sp 2 (CY .i64 (show ¬(ps.length:Int) < 2 by omega)),sq 2 (Ia .i64 (show ¬(ps.length:Int) > 1024 by omega)),sg 3 (QS (τ++[[f]]) (Dj hf Bp)),sq 0 (by rw[hf.CQ hp];exact DW hp:AJ (.idx 3) [f,N 1]=some [some (.vptr p.pv)]),sq 0 (Gc p),sg 0 (QS (τ++[[f]]) (Eg p.ok)),sq 0 (E8 p.ok),sq 0 (Ia .i64 (show ¬(p.nx.length:Int) > 0 by omega)),sl 3 [1,3,4] L]
theorem AkC{ps:List Pt}{p:Pt}(hf:Cw f ps)(h:¬ps.length<2)(h2:¬ps.length>1024)(hp:ps[1]?=some p)(h3:¬p.nx.length>0)(L:LpE a35 0 [(1,ref τ.length 0),(3,N ps.length),(4,N 0)] (τ++[[f]]) (.exit 0) [] (τ++[[f]])):E 35 [.agg [f]] τ (.bool true) (τ++[[f]]):=by
 exact rule R35 [st 0 (FN (τ:=τ) hf),st 2 (QS (τ++[[f]]) (Dj hf Bp)),sp 0 (DF hf),sp 2 (CY .i64 (show ¬(ps.length:Int) < 2 by omega)),sq 2 (Ia .i64 (show ¬(ps.length:Int) > 1024 by omega)),sg 3 (QS (τ++[[f]]) (Dj hf Bp)),sq 0 (by rw[hf.CQ hp];exact DW hp:AJ (.idx 3) [f,N 1]=some [some (.vptr p.pv)]),sq 0 (Gc p),sg 0 (QS (τ++[[f]]) (Eg p.ok)),sq 0 (E8 p.ok),sq 0 (Ia .i64 (show ¬(p.nx.length:Int) > 0 by omega)),sl 3 [1,3,4] L]
theorem wV{ps:List Pt}{a:Nat}(hf:Cw f ps)(hi:τ[i]?=some [f])(hs:ps.length≤1024)(ha:a<ps.length)(L:LpE a35 1 [(1,ref i 0),(3,N ps.length),(4,N a),(5,N 0)] τ (.exit 2) [(1,ref i 0),(3,N ps.length),(4,N a)] τ){e:Bt}{ff1:FF}{σ1:Sto}(hl:LpE a35 0 [(1,ref i 0),(3,N ps.length),(4,N (a+1))] τ e ff1 σ1):LpE a35 0 [(1,ref i 0),(3,N ps.length),(4,N a)] τ e ff1 σ1:=by
 exact ER [1,3,4] [sp 2 (Cm .i64 (show(a:Int) < (ps.length:Int) by omega)),sl 2 [1,3,4,5] L,sp 1 (Di a 1 (by omega))] hl
theorem Ak8{ps:List Pt}{a:Nat}(hf:Cw f ps)(hi:τ[i]?=some [f])(hs:ps.length≤1024)(ha:a<ps.length)(L:LpE a35 1 [(1,ref i 0),(3,N ps.length),(4,N a),(5,N 0)] τ .ret [(2,bool false)] τ):LpE a35 0 [(1,ref i 0),(3,N ps.length),(4,N a)] τ .ret [(2,bool false)] τ:=by
 exact DR [2] [sp 2 (Cm .i64 (show(a:Int) < (ps.length:Int) by omega)),sl 2 [1,3,4,5] L]
theorem Ak5{ps:List Pt}{a:Nat}(hf:Cw f ps)(hi:τ[i]?=some [f])(hs:ps.length≤1024)(ha:¬a<ps.length):LpE a35 0 [(1,ref i 0),(3,N ps.length),(4,N a)] τ (.exit 0) [] τ:=by
 exact DR [] [sp 2 (CY .i64 (show ¬(a:Int) < (ps.length:Int) by omega))]
theorem Ak4{ps:List Pt}{a:Nat}(hf:Cw f ps)(hi:τ[i]?=some [f])(hs:ps.length≤1024){p:Pt}{k:Nat}(hp:ps[a]?=some p)(hk:¬k<p.nx.length):LpE a35 1 [(1,ref i 0),(3,N ps.length),(4,N a),(5,N k)] τ (.exit 2) [(1,ref i 0),(3,N ps.length),(4,N a)] τ:=by
 exact DR [1,3,4] [st 2 (QS τ (Dj hf hi)),sp 1 (by rw[hf.CQ hp];exact DW hp:AJ (.idx 3) [f,N a]=some [some (.vptr p.pv)]),sp 0 (Gc p),st 0 (QS τ (Eg p.ok)),sp 0 (E8 p.ok),sp 0 (CY .i64 (show ¬(k:Int) < (p.nx.length:Int) by omega))]
theorem Ak7{ps:List Pt}{a:Nat}(hf:Cw f ps)(hi:τ[i]?=some [f])(hs:ps.length≤1024){p:Pt}{k:Nat}(hp:ps[a]?=some p){x:Int}(hk:k<p.nx.length)(hn:p.nx.length<4000000000)(hx:p.nx[k]?=some x)(h:x<1):LpE a35 1 [(1,ref i 0),(3,N ps.length),(4,N a),(5,N k)] τ .ret [(2,bool false)] τ:=by
 exact DR [2] [st 2 (QS τ (Dj hf hi)),sp 1 (by rw[hf.CQ hp];exact DW hp:AJ (.idx 3) [f,N a]=some [some (.vptr p.pv)]),sp 0 (Gc p),st 0 (QS τ (Eg p.ok)),sp 0 (E8 p.ok),sp 0 (Cm .i64 (show(k:Int) < (p.nx.length:Int) by omega)),st 2 (QS τ (Dj hf hi)),sp 1 (by rw[hf.CQ hp];exact DW hp:AJ (.idx 3) [f,N a]=some [some (.vptr p.pv)]),sp 0 (Gc p),st 0 (QS τ (Eg p.ok)),sp 1 (by rw[p.ok.CQ hx];exact Dh (o:=false) hx:AJ (.idx 1) [p.v,N k]=some [some (.vptr (I x))]),sp 1 (Cm .i64 h)]
theorem Ak6{ps:List Pt}{a:Nat}(hf:Cw f ps)(hi:τ[i]?=some [f])(hs:ps.length≤1024){p:Pt}{k:Nat}(hp:ps[a]?=some p){x:Int}(hk:k<p.nx.length)(hn:p.nx.length<4000000000)(hx:p.nx[k]?=some x)(h:¬x<1)(h2:x≥(ps.length:Int)):LpE a35 1 [(1,ref i 0),(3,N ps.length),(4,N a),(5,N k)] τ .ret [(2,bool false)] τ:=by
 exact DR [2] [st 2 (QS τ (Dj hf hi)),sp 1 (by rw[hf.CQ hp];exact DW hp:AJ (.idx 3) [f,N a]=some [some (.vptr p.pv)]),sp 0 (Gc p),st 0 (QS τ (Eg p.ok)),sp 0 (E8 p.ok),sp 0 (Cm .i64 (show(k:Int) < (p.nx.length:Int) by omega)),st 2 (QS τ (Dj hf hi)),sp 1 (by rw[hf.CQ hp];exact DW hp:AJ (.idx 3) [f,N a]=some [some (.vptr p.pv)]),sp 0 (Gc p),st 0 (QS τ (Eg p.ok)),sp 1 (by rw[p.ok.CQ hx];exact Dh (o:=false) hx:AJ (.idx 1) [p.v,N k]=some [some (.vptr (I x))]),sp 1 (CY .i64 (show ¬x<1 by omega)),sg 2 (QS τ (Dj hf hi)),sq 1 (by rw[hf.CQ hp];exact DW hp:AJ (.idx 3) [f,N a]=some [some (.vptr p.pv)]),sq 0 (Gc p),sg 0 (QS τ (Eg p.ok)),sq 1 (by rw[p.ok.CQ hx];exact Dh (o:=false) hx:AJ (.idx 1) [p.v,N k]=some [some (.vptr (I x))]),sq 2 (SV .i64 h2)]
theorem wW{ps:List Pt}{a:Nat}(hf:Cw f ps)(hi:τ[i]?=some [f])(hs:ps.length≤1024){p:Pt}{k:Nat}(hp:ps[a]?=some p){x:Int}(hk:k<p.nx.length)(hn:p.nx.length<4000000000)(hx:p.nx[k]?=some x)(h:¬x<1)(h2:¬x≥(ps.length:Int)){e:Bt}{ff1:FF}{σ1:Sto}(hl:LpE a35 1 [(1,ref i 0),(3,N ps.length),(4,N a),(5,N (k+1))] τ e ff1 σ1):LpE a35 1 [(1,ref i 0),(3,N ps.length),(4,N a),(5,N k)] τ e ff1 σ1:=by
 exact ER [1,3,4,5] [st 2 (QS τ (Dj hf hi)),sp 1 (by rw[hf.CQ hp];exact DW hp:AJ (.idx 3) [f,N a]=some [some (.vptr p.pv)]),sp 0 (Gc p),st 0 (QS τ (Eg p.ok)),sp 0 (E8 p.ok),sp 0 (Cm .i64 (show(k:Int) < (p.nx.length:Int) by omega)),st 2 (QS τ (Dj hf hi)),sp 1 (by rw[hf.CQ hp];exact DW hp:AJ (.idx 3) [f,N a]=some [some (.vptr p.pv)]),sp 0 (Gc p),st 0 (QS τ (Eg p.ok)),sp 1 (by rw[p.ok.CQ hx];exact Dh (o:=false) hx:AJ (.idx 1) [p.v,N k]=some [some (.vptr (I x))]),sp 1 (CY .i64 (show ¬x<1 by omega)),sg 2 (QS τ (Dj hf hi)),sq 1 (by rw[hf.CQ hp];exact DW hp:AJ (.idx 3) [f,N a]=some [some (.vptr p.pv)]),sq 0 (Gc p),sg 0 (QS τ (Eg p.ok)),sq 1 (by rw[p.ok.CQ hx];exact Dh (o:=false) hx:AJ (.idx 1) [p.v,N k]=some [some (.vptr (I x))]),sq 2 (KP .i64 h2),sp 3 (Di k 1 (by omega))] hl
theorem q10{ps:List Pt}(hf:Cw f ps)(h:E 35 [.agg [f]] (τ++[[f]]) (.bool b) τ2):E 10 [.agg [f]] τ (.bool b) τ2:=by
 exact rule R10 [st 0 (FN (τ:=τ) hf),st 1 (QS (τ++[[f]]) (E9 hf Bp)),st 0 (oW h (by kernel_rfl) ⟨by rcases hf with rfl | ⟨rfl,_⟩<;>rfl,rfl,rfl⟩)]
end Go.Abs.Z

namespace Go.Abs.Z
open Go.Proofs Go.RowKit
set_option linter.unusedVariables false
open Classical
theorem kD{τ:Sto}{f:PV}{ps:List Pt}{m:Int}{i:Nat}(hf:Cw f ps)(hi:τ[i]?=some [f])(hs:ps.length<4000000000):∀(n j:Nat),n=ps.length - j→j≤ps.length→(∀k p,k<j→ps[k]?=some p→p.nx.length≤8)→
  ((∀p∈ps,p.nx.length≤8)∧LpE a25 0 [(1,some (I m)),(2,some (.ref i 0)),(5,some (N j))] τ (.exit 0) [(1,some (I m)),(2,some (.ref i 0))] τ)∨(¬(∀p∈ps,p.nx.length≤8)∧LpE a25 0 [(1,some (I m)),(2,some (.ref i 0)),(5,some (N j))] τ .ret [(4,some (.bool false))] τ)
 |0,j,hm,hj,hb=>by
  refine .inl ⟨fun p hp=>?_,Av5 hf hi (by omega)⟩
  obtain⟨k,he⟩:=Bb.1 hp;exact hb k p (by have:=(Ab.1 he).1;omega) he
 |n+1,j,hm,hj,hb=>by
  have hjl:j<ps.length:=by omega
  have hx:=Ad hjl;by_cases h8:ps[j].nx.length>8
  ·exact .inr ⟨fun h=>by have:=h _ (AQ hjl);omega,Av6 hf hi hjl hs hx h8⟩
  ·rcases kD hf hi hs n (j+1) (by omega) (by omega) (fun k p hk hp=>by
    by_cases hkj:k=j
    ·subst hkj;rw[hx] at hp;cases hp;omega
    ·exact hb k p (by omega) hp) with⟨h1,h2⟩ | ⟨h1,h2⟩
   ·exact .inl ⟨h1,xc hf hi hjl hs hx h8 h2⟩
   ·exact .inr ⟨h1,xc hf hi hjl hs hx h8 h2⟩
def Te(ps:List Pt)(m:Int):Prop:=(∀p∈ps,p.nx.length≤8)∧(ps.length:Int)≤m
theorem e25{τ:Sto}{f:PV}{ps:List Pt}(m:Int)(hf:Cw f ps)(hs:ps.length<4000000000):E 25 [.agg [f],I m] τ (.bool (decide (Te ps m))) (τ++[[f]]):=by
 rcases kD (m:=m) hf (Bp (τ:=τ) (o:=[f])) hs ps.length 0 (by omega) (by omega) (fun k p hk=>by omega) with⟨h1,h2⟩ | ⟨h1,h2⟩
 ·have:=Av7 hf h2;rw[show decide (Te ps m)=decide ((ps.length:Int)≤m) from decide_eq_decide.2 ⟨fun h=>h.2,fun h=>⟨h1,h⟩⟩]
  exact this
 ·rw[decide_eq_false fun h=>h1 h.1];exact Av8 hf h2
theorem e6{τ:Sto}{f:PV}{ps:List Pt}(m:Int)(hf:Cw f ps)(hs:ps.length<4000000000):E 6 [.agg [f],I m] τ (.bool (decide (Te ps m))) (τ++[[f]]++[[f]]):=q6 hf (e25 m hf hs)
section
variable{τ:Sto}{a c:PV}{la mm:List (List Int)}
theorem Z4(ha:Rdd τ a la)(hc:Rdd τ c mm){j:Nat}{p q w u:PV}{l m:List Int}(hj:j<la.length)(hs:la.length<4000000000)(ip:AJ (.idx 1) [a,N j]=some [some p])(lp:BR (.ld 1 false) [p] τ=some [some w])(hw:Rd τ w l)(iq:AJ (.idx 1) [c,N j]=some [some q])(lq:BR (.ld 1 false) [q] τ=some [some u])(hu:Rd τ u m)
  (he:l.length=m.length) (hl:l.length<4000000000):∀(n k:Nat),n=l.length - k→k≤l.length→(∀i,i<k→l[i]?=m[i]?)→
  (l=m∧LpE a34 1 [(0,some a),(1,some c),(5,some (N j)),(6,some (N k))] τ (.exit 2) [(0,some a),(1,some c),(5,some (N j))] τ)∨(l≠m∧LpE a34 1 [(0,some a),(1,some c),(5,some (N j)),(6,some (N k))] τ .ret [(4,some (.bool false))] τ)
 |0,k,hm,hk,hb=>by
  refine .inl ⟨BH fun i=>?_,AkH ha hc hj hs ip lp hw iq lq hu (by omega)⟩
  by_cases hi:i<k
  ·exact hb i hi
  ·rw[AC (by omega),AC (by omega)]
 |n+1,k,hm,hk,hb=>by
  have hkl:k<l.length:=by omega
  have hx:=Ad hkl;have hy:m[k]?=some (m[k]'(by omega)):=Ad (by omega)
  obtain⟨p1,i1,l1⟩:=hw.idx k _ hx;obtain⟨p2,i2,l2⟩:=hu.idx k _ hy;by_cases hxy:l[k]=m[k]'(by omega)
  ·rcases Z4 ha hc hj hs ip lp hw iq lq hu he hl n (k+1) (by omega) (by omega) (fun i hi=>by
    by_cases hik:i=k
    ·subst hik;rw[hx,hy,hxy]
    ·exact hb i (by omega)) with⟨h1,h2⟩ | ⟨h1,h2⟩
   ·exact .inl ⟨h1,wY ha hc hj hs ip lp hw iq lq hu hkl hl i1 l1 i2 l2 hxy h2⟩
   ·exact .inr ⟨h1,wY ha hc hj hs ip lp hw iq lq hu hkl hl i1 l1 i2 l2 hxy h2⟩
  ·refine .inr ⟨fun h=>hxy ?_,AkI ha hc hj hs ip lp hw iq lq hu hkl hl i1 l1 i2 l2 hxy⟩
   subst h;rfl
theorem kg(ha:Rdd τ a la)(hc:Rdd τ c mm)(he:la.length=mm.length)(hs:la.length<4000000000)(hl:∀l∈la,l.length<4000000000):∀(n j:Nat),n=la.length - j→j≤la.length→(∀i,i<j→la[i]?=mm[i]?)→
  (la=mm∧LpE a34 0 [(0,some a),(1,some c),(5,some (N j))] τ (.exit 0) [] τ)∨(la≠mm∧LpE a34 0 [(0,some a),(1,some c),(5,some (N j))] τ .ret [(4,some (.bool false))] τ)
 |0,j,hm,hj,hb=>by
  refine .inl ⟨BH fun i=>?_,AkE ha hc (by omega)⟩
  by_cases hi:i<j
  ·exact hb i hi
  ·rw[AC (by omega),AC (by omega)]
 |n+1,j,hm,hj,hb=>by
  have hjl:j<la.length:=by omega
  have hx:=Ad hjl;have hy:mm[j]?=some (mm[j]'(by omega)):=Ad (by omega)
  obtain⟨p,w,ip,lp,hw⟩:=ha.idx j _ hx;obtain⟨q,u,iq,lq,hu⟩:=hc.idx j _ hy;have hlj:=hl _ (AQ hjl);have no:la[j]≠mm[j]'(by omega)→la≠mm:=fun h h2=>h (by subst h2;rfl)
  by_cases hlen:la[j].length=(mm[j]'(by omega)).length
  ·rcases Z4 ha hc hjl hs ip lp hw iq lq hu hlen hlj la[j].length 0 (by omega) (by omega) (fun i hi=>by omega) with⟨h1,h2⟩ | ⟨h1,h2⟩
   ·rcases kg ha hc he hs hl n (j+1) (by omega) (by omega) (fun i hi=>by
     by_cases hij:i=j
     ·subst hij;rw[hx,hy,h1]
     ·exact hb i (by omega)) with⟨h3,h4⟩ | ⟨h3,h4⟩
    ·exact .inl ⟨h3,wX ha hc hjl hs ip lp hw iq lq hu hlen h2 h4⟩
    ·exact .inr ⟨h3,wX ha hc hjl hs ip lp hw iq lq hu hlen h2 h4⟩
   ·exact .inr ⟨no h1,AkF ha hc hjl hs ip lp hw iq lq hu hlen h2⟩
  ·exact .inr ⟨no fun h=>hlen (by rw[h]),AkG ha hc hjl hs ip lp hw iq lq hu hlen⟩
theorem e34(ha:Rdd τ a la)(hc:Rdd τ c mm)(hs:la.length<4000000000)(hl:∀l∈la,l.length<4000000000):E 34 [a,c] τ (.bool (decide (la=mm))) τ:=by
 by_cases he:la.length=mm.length
 ·rcases kg ha hc he hs hl la.length 0 (by omega) (by omega) (fun i hi=>by omega) with⟨h1,h2⟩ | ⟨h1,h2⟩
  ·rw[decide_eq_true h1];exact AkJ ha hc he h2
  ·rw[decide_eq_false h1];exact AkK ha hc he h2
 ·rw[decide_eq_false fun h=>he (by rw[h])];exact AkL ha hc he
theorem e9(ha:Rdd τ a la)(hc:Rdd τ c mm)(hs:la.length<4000000000)(hl:∀l∈la,l.length<4000000000):E 9 [a,c] τ (.bool (decide (la=mm))) τ:=q9 ha hc (e34 ha hc hs hl)
end
structure Fj(ps:List Pt):Prop where
 two:2≤ps.length
 most:ps.length≤1024
 one:∀p,ps[1]?=some p→p.nx=[]
 to:∀p∈ps,∀x∈p.nx,1≤x∧x<(ps.length:Int)
section
variable{τ:Sto}{f:PV}{ps:List Pt}
theorem Z0{i a:Nat}(hf:Cw f ps)(hi:τ[i]?=some [f])(hs:ps.length≤1024){p:Pt}(hp:ps[a]?=some p)(hn:p.nx.length<4000000000):∀(n k:Nat),n=p.nx.length - k→k≤p.nx.length→(∀j x,j<k→p.nx[j]?=some x→1≤x∧x<(ps.length:Int))→
  ((∀x∈p.nx,1≤x∧x<(ps.length:Int))∧LpE a35 1 [(1,some (.ref i 0)),(3,some (N ps.length)),(4,some (N a)),(5,some (N k))] τ (.exit 2) [(1,some (.ref i 0)),(3,some (N ps.length)),(4,some (N a))] τ) ∨
  (¬(∀x∈p.nx,1≤x∧x<(ps.length:Int))∧LpE a35 1 [(1,some (.ref i 0)),(3,some (N ps.length)),(4,some (N a)),(5,some (N k))] τ .ret [(2,some (.bool false))] τ)
 |0,k,hm,hk,hb=>by
  refine .inl ⟨fun x hx=>?_,Ak4 hf hi hs hp (by omega)⟩
  obtain⟨j,he⟩:=Bb.1 hx;exact hb j x (by have:=(Ab.1 he).1;omega) he
 |n+1,k,hm,hk,hb=>by
  have hkl:k<p.nx.length:=by omega
  have hx:=Ad hkl;have no:¬(1≤p.nx[k]∧p.nx[k] < (ps.length:Int))→¬(∀x∈p.nx,1≤x∧x<(ps.length:Int)):=fun h h2=>h (h2 _ (AQ hkl))
  by_cases h1:p.nx[k] < 1
  ·exact .inr ⟨no fun h=>by omega,Ak7 hf hi hs hp hkl hn hx h1⟩
  by_cases h2:p.nx[k]≥(ps.length:Int)
  ·exact .inr ⟨no fun h=>by omega,Ak6 hf hi hs hp hkl hn hx h1 h2⟩
  rcases Z0 hf hi hs hp hn n (k+1) (by omega) (by omega) (fun j x hj hx'=>by
   by_cases hjk:j=k
   ·subst hjk;rw[hx] at hx';cases hx';omega
   ·exact hb j x (by omega) hx') with⟨h3,h4⟩ | ⟨h3,h4⟩
  ·exact .inl ⟨h3,wW hf hi hs hp hkl hn hx h1 h2 h4⟩
  ·exact .inr ⟨h3,wW hf hi hs hp hkl hn hx h1 h2 h4⟩
theorem j6{i:Nat}(hf:Cw f ps)(hi:τ[i]?=some [f])(hs:ps.length≤1024)(hn:∀p∈ps,p.nx.length<4000000000):∀(n a:Nat),n=ps.length - a→a≤ps.length→(∀j p,j<a→ps[j]?=some p→∀x∈p.nx,1≤x∧x<(ps.length:Int))→
  ((∀p∈ps,∀x∈p.nx,1≤x∧x<(ps.length:Int))∧LpE a35 0 [(1,some (.ref i 0)),(3,some (N ps.length)),(4,some (N a))] τ (.exit 0) [] τ) ∨
  (¬(∀p∈ps,∀x∈p.nx,1≤x∧x<(ps.length:Int))∧LpE a35 0 [(1,some (.ref i 0)),(3,some (N ps.length)),(4,some (N a))] τ .ret [(2,some (.bool false))] τ)
 |0,a,hm,ha,hb=>by
  refine .inl ⟨fun p hp=>?_,Ak5 hf hi hs (by omega)⟩
  obtain⟨j,he⟩:=Bb.1 hp;exact hb j p (by have:=(Ab.1 he).1;omega) he
 |n+1,a,hm,ha,hb=>by
  have hal:a<ps.length:=by omega
  have hx:=Ad hal;rcases Z0 hf hi hs hx (hn _ (AQ hal)) ps[a].nx.length 0 (by omega) (by omega) (fun j x hj=>by omega) with⟨h1,h2⟩ | ⟨h1,h2⟩
  ·rcases j6 hf hi hs hn n (a+1) (by omega) (by omega) (fun j p hj hp=>by
    by_cases hja:j=a
    ·subst hja;rw[hx] at hp;cases hp;exact h1
    ·exact hb j p (by omega) hp) with⟨h3,h4⟩ | ⟨h3,h4⟩
   ·exact .inl ⟨h3,wV hf hi hs hal h2 h4⟩
   ·exact .inr ⟨h3,wV hf hi hs hal h2 h4⟩
  ·exact .inr ⟨fun h=>h1 (h _ (AQ hal)),Ak8 hf hi hs hal h2⟩
theorem e35(hf:Cw f ps)(hn:∀p∈ps,p.nx.length<4000000000):E 35 [.agg [f]] τ (.bool (decide (Fj ps))) (τ++[[f]]):=by
 by_cases h1:ps.length<2
 ·rw[decide_eq_false fun h:Fj ps=>by have:=h.two;omega];exact AkB hf h1
 by_cases h2:ps.length>1024
 ·rw[decide_eq_false fun h:Fj ps=>by have:=h.most;omega];exact AkA hf h1 h2
 have hp:ps[1]?=some (ps[1]'(by omega)):=Ad (by omega)
 by_cases h3:(ps[1]'(by omega)).nx.length>0
 ·rw[decide_eq_false fun h:Fj ps=>by have:=h.one _ hp;rw[this] at h3;simp at h3];exact Ak9 hf h1 h2 hp h3
 rcases j6 hf (Bp (τ:=τ) (o:=[f])) (by omega) hn ps.length 0 (by omega) (by omega) (fun j p hj=>by omega) with⟨h4,h5⟩ | ⟨h4,h5⟩
 ·rw[decide_eq_true (⟨by omega,by omega,fun p hp'=>by rw[hp] at hp';cases hp';exact Bq.1 (by omega),h4⟩:Fj ps)]
  exact AkC hf h1 h2 hp h3 h5
 ·rw[decide_eq_false fun h:Fj ps=>h4 h.to]
  exact AkD hf h1 h2 hp h3 h5
theorem e10(hf:Cw f ps)(hn:∀p∈ps,p.nx.length<4000000000):E 10 [.agg [f]] τ (.bool (decide (Fj ps))) (τ++[[f]]++[[f]]):=q10 hf (e35 hf hn)
end
end Go.Abs.Z
