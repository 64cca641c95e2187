/- A part of the proof: A48 AX AY AZ AZ2 AZ3. -/
import Derived.Test.YtbkjmbhabkkoeaaGreatDoorKap
import Derived.Test.YtbkjmbhabkkoeaaGreatDoorKan
import Derived.KernelRfl

set_option linter.unusedVariables false
set_option linter.unusedSimpArgs false
namespace Go.Abs
open Go.RowKit
def allM(f:PV→Option PV):List PV→Option (List PV)
 |[]=>some []
 |v::vs=>match f v,allM f vs with
  |some q,some qs=>some (q::qs)
  |_,_=>none
def Hy(f:PV→Option PV)(e:PV):Option PV:=match e with
 |.agg cs=>(allM f cs).map .agg
 |.aggr cs=>(allM f cs).map .agg
 |e=>match f e with
  |some q=>if q.one then some q else none
  |none=>none
def EH:Nat→Sto→PV→Option PV
 |0,_,_=>none
 |n+1,σ,p=>match p with
  |.arr id gen off len size=>match Gs σ id gen off len size with
   |some es=>(allM (Hy (EH n σ)) es).map (.slice false size)
   |none=>none
  |p=>if p.flat&&p.one then some p.Ag else none
def SA(n:Nat)(σ:Sto)(r:PV):Option PV:=match r with
 |.tuple vs=>(allM (Hy (EH n σ)) vs).map .tuple
 |.func _ _ _=>none
 |r=>Hy (EH n σ) r
theorem Ib{f:PV→Option PV}:∀{vs qs:List PV},allM f vs=some qs→qs.length=vs.length∧∀(i:Nat) (v q:PV),vs[i]?=some v→qs[i]?=some q→f v=some q
 |[],qs,h=>by cases h;exact⟨rfl,fun i v q h=>by simp at h⟩
 |v::vs,qs,h=>by
  simp only[allM] at h
  split at h
  ·rename_i q qs' h1 h2;cases h;obtain⟨h3,h4⟩:=Ib h2;refine⟨by simp[h3],fun i v' q' hv hq=>?_⟩
   cases i with
   |zero=>simp at hv hq;subst hv hq;exact h1
   |succ i=>exact h4 i v' q' (by simpa using hv) (by simpa using hq)
  ·cases h
section
variable{G:Gh}{w:World}{σ:Sto}{I2:Imm}
structure Deep(G:Gh)(w:World)(σ:Sto)(I2:Imm):Prop where
 arr:∀(id gen size:Nat) (es:List PV),σ[id]?=some [.arrv gen size es]→L9 G w id gen size es
 sub:∀b x,G.I b x→I2 b x
 own:∀b tag x,G.ω b=some tag→I2 b x
theorem bO{q:PV}(h:q.one=true):q.cells=[q]:=by cases q<;>first | rfl | cases h
theorem Pw{f:PV→Option PV}(hf:∀p q,f p=some q→∀v,Bu G.I G.bl w v p→Rep I2 w v q){e e':PV}(h:Hy f e=some e'):
  e'.cells.length=e.cells.length∧∀(j:Nat) (p q:PV),e.cells[j]?=some p→e'.cells[j]?=some q→∀v,Bu G.I G.bl w v p→Rep I2 w v q:=by
 have plain:e.isAgg=false→(match f e with | some q=>if q.one then some q else none | none=>none)=some e'→e'.cells.length=e.cells.length∧∀(j:Nat) (p q:PV),e.cells[j]?=some p→e'.cells[j]?=some q→∀v,Bu G.I G.bl w v p→Rep I2 w v q:=by
  intro ha h;have hc:e.cells=[e]:=by cases e<;>first | rfl | cases ha
  split at h
  ·rename_i q hq
   split at h
   ·rename_i ho;cases h;rw[bO ho,hc];refine⟨rfl,fun j p q hp hq' v hv=>?_⟩
    cases j with
    |zero=>
     simp at hp hq';subst hp hq';exact hf _ _ hq v hv
    |succ j=>simp at hp
   ·cases h
  ·cases h
 cases e with
 |agg cs=>
  obtain⟨qs,h1,rfl⟩:=Ac.1 h;obtain⟨h2,h3⟩:=Ib h1;exact⟨h2,fun j p q hp hq v hv=>hf _ _ (h3 j p q hp hq) v hv⟩
 |aggr cs=>
  obtain⟨qs,h1,rfl⟩:=Ac.1 h;obtain⟨h2,h3⟩:=Ib h1;exact⟨h2,fun j p q hp hq v hv=>hf _ _ (h3 j p q hp hq) v hv⟩
 |_=>exact plain rfl h
theorem NZ(hd:Deep G w σ I2):∀(n:Nat) (p q:PV),EH n σ p=some q→∀v,Bu G.I G.bl w v p→Rep I2 w v q
 |0,p,q,h,v,hv=>by cases h
 |n+1,p,q,h,v,hv=>by
  have ih:=NZ hd n;simp only[EH] at h
  split at h
  ·rename_i id gen off len size
   split at h
   case h_2=>cases h
   rename_i es hes;obtain⟨es',h1,rfl⟩:=Ac.1 h;obtain⟨hlen',hsp⟩:=Ib h1;obtain⟨fs,hσ,hl,rfl⟩:=Nw hes;obtain⟨b,base,m,cs,elem,g1,g2,hω,hI,hheap,h6,h7,h8,h9⟩:=hd.arr _ _ _ _ hσ;obtain⟨b0,base0,n0,cap,b',o',hbb,hcap,hcn,hat,ev⟩:=hv.Gp;rw[hbb] at g1;cases g1;have hlen:((fs.drop off).take len).length=len:=by rw[Bj,CX];omega
   obtain⟨ds,hrow,hcell⟩:=Kj (G:=G) (id:=id) (gen:=gen) (n:=n) (off:=off) (len:=len) h7 hheap (by omega) h9 hl
   have hel:∀(i:Nat) (e':PV),es'[i]?=some e'→∃e,((fs.drop off).take len)[i]?=some e∧Hy (EH n σ) e=some e':=fun i e' he'=>by
    have hi:i<((fs.drop off).take len).length:=by rw[←hlen'];exact(Ab.1 he').1
    exact⟨_,Ad hi,hsp i _ _ (Ad hi) he'⟩
   have hrow2:Hd I2 w size ds es':=by
    refine⟨by rw[hlen'];exact hrow.1,fun i e' he'=>?_,fun i e' j q he' hq=>?_⟩
    ·obtain⟨e,h2,h3⟩:=hel i e' he';rw[(Pw ih h3).1];exact hrow.2.1 i e h2
    ·obtain⟨e,h2,h3⟩:=hel i e' he';obtain⟨h4,h5⟩:=Pw ih h3;have hj:j<e.cells.length:=by rw[←h4];exact(Ab.1 hq).1
     obtain⟨c,c1,c2⟩:=hrow.2.2 i e j _ h2 (Ad hj);exact⟨c,c1,h5 j _ q (Ad hj) hq c c2⟩
   rw[ev];by_cases hl0:len=0
   ·have hemp:es'=[]:=Bq.1 (by rw[hlen',hlen,hl0])
    subst hemp;exact .slice (fun _ _=>undef) (by rw[hl0];rfl) hcap (fun h=>absurd rfl h) (fun i e h=>by simp at h) (fun i e j p h=>by simp at h) (fun i e j p h=>by simp at h) (fun i e j p h=>by simp at h)
   ·obtain⟨rfl,rfl⟩:=hat (by omega)
    exact Kl (by rw[hlen',hlen]) hcap hrow2 (fun k _=>hd.own _ _ _ hω) (fun k v hk=>hcell k v hk)
  ·split at h
   ·rename_i hf;cases h;rw[Ak] at hf;exact((hv.flat hf.1).mono hd.sub (Same.refl _ _)).Ag
   ·cases h
theorem Um(hd:Deep G w σ I2){n:Nat}{e e':PV}(h:Hy (EH n σ) e=some e'){v:Value}(hv:PZ G.I G.bl w v e):Rep I2 w v e':=by
 have plain:e.isAgg=false→(match EH n σ e with | some q=>if q.one then some q else none | none=>none)=some e'→Rep I2 w v e':=by
  intro ha h
  split at h
  ·rename_i q hq
   split at h
   ·cases h;exact NZ hd n _ _ hq v hv.wO
   ·cases h
  ·cases h
 cases e with
 |agg cs=>
  obtain⟨qs,h1,rfl⟩:=Ac.1 h;obtain⟨h2,h3⟩:=Ib h1;rcases hv with hv | ⟨_,_,_,h,_⟩
  ·rcases hv with hv | hv
   ·cases hv with
    |agg hs hr=>
     refine .agg (by rw[hs,h2]) fun i q hq=>?_
     have hi:i<cs.length:=by rw[←h2];exact(Ab.1 hq).1
     exact NZ hd n _ _ (h3 i _ _ (Ad hi) hq) _ (.one (.inl (hr i _ (Ad hi))))
   ·cases hv
  ·cases h
 |aggr cs=>
  obtain⟨qs,h1,rfl⟩:=Ac.1 h;obtain⟨h2,h3⟩:=Ib h1;rcases hv with hv | ⟨ds,ps,rfl,h,hs,hr⟩
  ·rcases hv with hv | hv<;>cases hv
  ·cases h;refine .agg (by rw[hs,h2]) fun i q hq=>?_
   have hi:i<cs.length:=by rw[←h2];exact(Ab.1 hq).1
   exact NZ hd n _ _ (h3 i _ _ (Ad hi) hq) _ (.one (hr i _ (Ad hi)))
 |_=>exact plain rfl h
theorem dG(hd:Deep G w σ I2){n:Nat}{r r':PV}(h:SA n σ r=some r'){v:Value}(hv:Bu G.I G.bl w v r):Rep I2 w v r':=by
 unfold SA at h
 split at h
 ·rename_i vs;obtain⟨qs,h1,rfl⟩:=Ac.1 h;obtain⟨h2,h3⟩:=Ib h1;obtain⟨cs,rfl,hs,hr⟩:=hv.Ot;refine .tuple (by rw[hs,h2]) fun i q hq=>?_
  have hi:i<vs.length:=by rw[←h2];exact(Ab.1 hq).1
  exact Um hd (h3 i _ _ (Ad hi) hq) (hr i _ (Ad hi))
 ·cases h
 ·rename_i hnt hnf;refine Um hd h ?_
  cases hv with
  |one h=>exact .inl h
  |func h1 h2 hf hc=>exact absurd rfl (hnf _ _ _)
  |tuple h hr=>exact absurd rfl (hnt _)
  |aggr h1 hr=>exact .inr ⟨_,_,rfl,rfl,h1,hr⟩
end
theorem uu{G:Gh}{w:World}{id gen size:Nat}{es:List PV}(h:Gx G w id [.arrv gen size es]):L9 G w id gen size es:=by
 obtain⟨b,h1,h2⟩:=h;rcases h2 with h2 | ⟨t,e,l,h,_⟩ | h | ⟨gen',size',es',h,h2⟩ | ⟨_,_,_,_,h,_⟩ | ⟨_,_,_,h,_⟩
 rotate_right
 ·cases h
 rotate_right
 ·cases h
 ·obtain⟨_,_,cs,_,_,_,h⟩:=h2;rcases h 0 _ rfl with⟨h,_⟩ | ⟨h,_⟩
  ·exact absurd h.free (by simp[PV.free])
  ·cases h
 ·cases h
 ·cases h
 ·cases h;exact h2
theorem Jp.iso{P:Program}{f:FuncId}{args:List PV}{r0 r:PV}{σ0:Sto}{n:Nat}(h:Jp P f args [] r0 σ0)(hf:args.all PV.flat=true)(hr:SA n σ0 r0=some r)(σ:Sto):Jp P f args σ r σ:=by
 refine⟨h.1,fun m vs w G K hargs hpre=>?_⟩
 have hpre0:Pre (fun b=>b<w.heap.size) G.bare w []:=
  ⟨hpre.lt,⟨fun b h=>h,fun b o h=>⟨hpre.Klt b (hpre.Klt.tab b o h).1,(hpre.Klt.tab b o h).2⟩⟩,fun b tag h=>(by cases h),fun id cs h=>(by simp at h),rfl,fun id g a h=>(by cases h)⟩
 refine(h.2 m vs w G.bare (fun b=>b<w.heap.size) (hargs.bare hf) hpre0).mono ?_
 rintro e w' ⟨v,G1,rfl,hv,ha⟩
 let I2:Imm:=fun b x=>G1.I b x∨(w.heap.size≤b∧b<w'.heap.size)
 have hd:Deep G1 w' σ0 I2:=⟨fun id gen size es hσ=>uu (ha.obj _ _ hσ),fun b x h=>.inl h,fun b tag x h=>by
  have:=ha.own b tag h;exact .inr ⟨by omega,this.1⟩⟩
 have hrep:=dG hd hr hv
 let G':Gh:=⟨I2,G.ω,G.bl⟩
 have hsub:∀b x,G.I b x→I2 b x:=fun b x h=>.inl (ha.sub b x h)
 have hold:∀b x,b<w.heap.size→I2 b x→G.I b x:=fun b x hb h=>by
  rcases h with h | h
  ·rcases ha.new b x h with h' | h'
   ·exact h'
   ·exact absurd hb h'
  ·omega
 have hext:Ext (fun _=>False) G G' w w':=⟨hsub,ha.same,Bl.le_refl _,fun _ _ _ _=>rfl,fun b tag h _=>by
  have hlt:=(hpre.own b tag h).1;exact⟨h,ha.keep b hlt,fun x hx=>hold b x hlt hx⟩⟩
 refine⟨v,G',rfl,.one (.inl hrep),⟨fun b hb=>ha.keep b (hpre.Klt b hb),ha.same,hsub,fun b x h=>?_,fun b x h=>?_,fun b tag h=>?_,ha.grow,Bl.le_refl _,ha.os,ha.tape,ha.output,fun id cs hc=>(hpre.obj id cs hc).ext hext fun j h=>h,hpre.len,hpre.abl⟩⟩
 ·by_cases hb:b<w.heap.size
  ·exact .inl (hold b x hb h)
  ·exact .inr fun hk=>hb (hpre.Klt b hk)
 ·rcases h with h | h
  ·exact ha.lt b x h
  ·exact h.2
 ·obtain⟨h1,h2⟩:=hpre.own b tag h;exact⟨Bn h1 ha.grow,h2⟩
end Go.Abs

namespace Go.Abs.Y
open Go.RowKit
noncomputable section
inductive Tr where
 |e
 |n (v:Option (List PV)) (l r:Tr)
def IC(t:Tr):Nat→Option (List PV):=
 Tr.rec (motive:=fun _=>Nat→Option (List PV)) (fun _=>none) (fun v _ _ ihl ihr i=>Nat.rec (motive:=fun _=>Option (List PV)) v (fun k _=>cond (Nat.beq (Nat.mod k 2) 0) (ihl (Nat.div k 2)) (ihr (Nat.div k 2))) i) t
def ZP(x:List PV)(t:Tr):Tr:=Tr.rec (motive:=fun _=>Tr) (.n (some x) .e .e) (fun _ l r _ _=>.n (some x) l r) t
def M3(x:List PV)(f:Nat):Tr→Nat→Tr:=Nat.rec (motive:=fun _=>Tr→Nat→Tr)
 (fun t _=>ZP x t)
 (fun _ ih t i=>Nat.rec (motive:=fun _=>Tr) (ZP x t)
  (fun k _=>Tr.rec (motive:=fun _=>Tr) (cond (Nat.beq (Nat.mod k 2) 0) (.n none (ih .e (Nat.div k 2)) .e) (.n none .e (ih .e (Nat.div k 2)))) (fun v l r _ _=>cond (Nat.beq (Nat.mod k 2) 0) (.n v (ih l (Nat.div k 2)) r) (.n v l (ih r (Nat.div k 2)))) t) i) f
inductive SX where
 |mk (len:Nat) (t:Tr)
def SX.len(s:SX):Nat:=SX.rec (motive:=fun _=>Nat) (fun n _=>n) s
def SX.get(s:SX)(i:Nat):Option (List PV):=SX.rec (motive:=fun _=>Option (List PV)) (fun n t=>cond (Nat.blt i n) (some (Option.rec (motive:=fun _=>List PV) [] (fun x=>x) (IC t i))) none) s
def SX.set(s:SX)(i:Nat)(x:List PV):SX:=SX.rec (motive:=fun _=>SX) (fun n t=>cond (Nat.blt i n) (.mk n (M3 x i t i)) (.mk n t)) s
def SX.nil:SX:=.mk 0 .e
def FD{α:Type}(k:Nat→α)(n:Nat):α:=Nat.rec (motive:=fun _=>α) (k 0) (fun m _=>k (Nat.succ m)) n
def SX.push(s:SX)(x:List PV):SX:=SX.rec (motive:=fun _=>SX) (fun n t=>.mk (Nat.succ n) (M3 x n t n)) s
def SX.toL(s:SX):Sto:=(List.range s.len).map fun i=>(IC (SX.rec (motive:=fun _=>Tr) (fun _ t=>t) s) i).getD []
def SX.ofL(σ:Sto):SX:=σ.foldl SX.push SX.nil
theorem aK{i n:Nat}(h:i<n):Nat.blt i n=true:=Nat.ble_eq_true_of_le h
theorem aL{i n:Nat}(h:¬i<n):Nat.blt i n=false:=by
 cases hb:Nat.blt i n with
 |false=>rfl
 |true=>exact absurd (DK hb) h
theorem Vu(i:Nat):IC .e i=none:=rfl
theorem dm(v:Option (List PV))(l r:Tr):IC (.n v l r) 0=v:=rfl
theorem OU(v:Option (List PV))(l r:Tr)(k:Nat):IC (.n v l r) (k+1)=cond (Nat.beq (k % 2) 0) (IC l (k / 2)) (IC r (k / 2)):=rfl
theorem XF(x:List PV)(t:Tr)(j:Nat):IC (ZP x t) j=if j=0 then some x else IC t j:=by
 cases t with
 |e=>cases j with
  |zero=>rfl
  |succ k=>
   show cond (Nat.beq (k % 2) 0) (IC .e (k / 2)) (IC .e (k / 2))=IC .e (k+1);rw[Vu,Vu];cases Nat.beq (k % 2) 0<;>rfl
 |n v l r=>cases j<;>rfl
theorem LJ(x:List PV):∀(f:Nat) (t:Tr) (i j:Nat),i≤f→IC (M3 x f t i) j=if j=i then some x else IC t j
 |0,t,i,j,h=>by
  have:i=0:=by omega
  subst this;exact XF x t j
 |f+1,t,0,j,_=>XF x t j
 |f+1,t,k+1,j,h=>by
  have ih:=LJ x f;have hk:k / 2≤f:=by omega
  have hbe:∀a:Nat,Nat.beq (a % 2) 0=decide (a % 2=0):=fun a=>by
   cases hb:Nat.beq (a % 2) 0 with
   |true=>exact(decide_eq_true (AU hb)).symm
   |false=>exact(decide_eq_false (Du hb)).symm
  have main:∀(v:Option (List PV)) (l r:Tr),IC (cond (Nat.beq (k % 2) 0) (.n v (M3 x f l (k / 2)) r) (.n v l (M3 x f r (k / 2)))) j=if j=k+1 then some x else IC (.n v l r) j:=by
   intro v l r;cases j with
   |zero=>rw[hbe];by_cases hc:k % 2=0<;>simp[hc,dm]
   |succ m=>
    rw[hbe];by_cases hc:k % 2=0
    ·simp only[hc,decide_true,cond_true,OU,hbe];by_cases hm:m % 2=0
     ·simp only[hm,decide_true,cond_true,ih _ _ _ hk];by_cases he:m=k
      ·subst he;simp
      ·have:m / 2≠k / 2:=by omega
       simp[he,this]
     ·have:m≠k:=by omega
      simp[hm,this]
    ·simp only[hc,decide_false,cond_false,OU,hbe];by_cases hm:m % 2=0
     ·have:m≠k:=by omega
      simp[hm,this]
     ·simp only[hm,decide_false,cond_false,ih _ _ _ hk];by_cases he:m=k
      ·subst he;simp
      ·have:m / 2≠k / 2:=by omega
       simp[he,this]
  cases t with
  |n v l r=>exact main v l r
  |e=>
   have:=main none .e .e
   have e2:IC (.n none .e .e) j=IC .e j:=by
    cases j with
    |zero=>rfl
    |succ m=>
     rw[OU,Vu,Vu];cases Nat.beq (m % 2) 0<;>rfl
   rw[e2] at this;exact this
theorem mZ(s:SX):s.toL.length=s.len:=by simp[SX.toL]
theorem Hf(s:SX)(i:Nat):s.toL[i]?=s.get i:=by
 obtain⟨n,t⟩:=s;show((List.range n).map fun i=>(IC t i).getD [])[i]?=cond (Nat.blt i n) (some (Option.rec (motive:=fun _=>List PV) [] (fun x=>x) (IC t i))) none
 rw[Af];by_cases h:i<n
 ·rw[Ck h,aK h];simp only[Ay,cond_true];cases IC t i<;>rfl
 ·rw[AC (by simpa using h),aL h]
  rfl
theorem Zr(s:SX)(i:Nat)(x:List PV):(s.set i x).toL=s.toL.set i x:=by
 obtain⟨n,t⟩:=s;apply BH;intro j;by_cases h:i<n
 ·have e:SX.set (.mk n t) i x=.mk n (M3 x i t i):=by
   show cond (Nat.blt i n) _ _=_;rw[aK h];rfl
  rw[e];show((List.range n).map fun k=>(IC (M3 x i t i) k).getD [])[j]?=(((List.range n).map fun k=>(IC t k).getD []).set i x)[j]?
  rw[BO,Af,Af];by_cases hij:i=j
  ·subst hij;rw[Ck h,if_pos rfl,if_pos (by simpa using h)]
   simp[LJ]
  ·rw[if_neg hij];by_cases hj:j<n
   ·rw[Ck hj];simp[LJ,Ne.symm hij]
   ·rw[AC (by simpa using hj)];rfl
 ·have e:SX.set (.mk n t) i x=.mk n t:=by
   show cond (Nat.blt i n) _ _=_;rw[aL h];rfl
  rw[e,List.set_eq_of_length_le];simpa [SX.toL,SX.len] using h
theorem VU(s:SX)(x:List PV):(s.push x).toL=s.toL++[x]:=by
 obtain⟨n,t⟩:=s;show((List.range (n+1)).map fun k=>(IC (M3 x n t n) k).getD [])=((List.range n).map fun k=>(IC t k).getD [])++[x]
 rw[List.range_succ,Ed];congr 1
 ·refine D5 fun k hk=>?_
  have:=Bg.1 hk;simp[LJ,show k≠n from by omega]
 ·simp[LJ]
theorem UF:SX.nil.toL=[]:=rfl
theorem Ty:∀(σ:Sto) (s:SX),(σ.foldl SX.push s).toL=s.toL++σ
 |[],s=>by simp
 |x::σ,s=>by rw[Cn,Ty σ,VU];simp
theorem UE(σ:Sto):(SX.ofL σ).toL=σ:=by
 unfold SX.ofL;rw[Ty,UF];rfl
end
end Go.Abs.Y

namespace Go.Abs.Y
open Go.RowKit
noncomputable section
abbrev Rs:=Option (List (Option PV))
abbrev RsX:=Option (List (Option PV)×SX)
def k1b(f:PV→Rs)(v:PV)(l:List PV):Rs:=List.rec (motive:=fun _=>Rs) (f v) (fun _ _ _=>none) l
def k1(f:PV→Rs)(vs:List PV):Rs:=List.rec (motive:=fun _=>Rs) none (fun v l _=>k1b f v l) vs
def k2b(f:PV→PV→Rs)(v:PV)(l:List PV):Rs:=List.rec (motive:=fun _=>Rs) none (fun u l _=>k1b (f v) u l) l
def k2(f:PV→PV→Rs)(vs:List PV):Rs:=List.rec (motive:=fun _=>Rs) none (fun v l _=>k2b f v l) vs
def k3b(f:PV→PV→PV→Rs)(v:PV)(l:List PV):Rs:=List.rec (motive:=fun _=>Rs) none (fun u l _=>k2b (f v) u l) l
def k3(f:PV→PV→PV→Rs)(vs:List PV):Rs:=List.rec (motive:=fun _=>Rs) none (fun v l _=>k3b f v l) vs
def pU{α:Type}(l:List α):Nat→Option α:=List.rec (motive:=fun _=>Nat→Option α) (fun _=>none) (fun x _ ih i=>Nat.rec (motive:=fun _=>Option α) (some x) (fun k _=>ih k) i) l
def Jg{α:Type}(l:List α):Nat:=List.rec (motive:=fun _=>Nat) 0 (fun _ _ ih=>Nat.succ ih) l
def nul{α:Type}(l:List α):Bool:=List.rec (motive:=fun _=>Bool) true (fun _ _ _=>false) l
def is1(v:PV):Rs:=some [some v]
def YX{α:Type}(k:Int→α)(n:Int):α:=Int.rec (motive:=fun _=>α) (FD (fun m=>k (Int.ofNat m))) (FD (fun m=>k (Int.negSucc m))) n
def Vp(k:IntKind):Nat:=IntKind.rec (motive:=fun _=>Nat) 0 1 2 3 4 5 6 7 k
def whV{α:Type}(kk:PV→α)(v:PV):α:=PV.rec (motive_1:=fun _=>(PV→α)→α) (motive_2:=fun _=>Unit) (fun b=>fun kk=>kk (.bool b)) (fun k n=>fun kk=>kk (.int k n)) (fun s=>fun kk=>kk (.str s)) (fun kk=>kk .nilp) (fun v _=>fun kk=>kk (.vptr v)) (fun id off=>fun kk=>kk (.ref id off)) (fun sl off=>fun kk=>kk (.lref sl off)) (fun n=>fun kk=>kk (.hole n)) (fun kk=>kk .nils) (fun own sz es _=>fun kk=>kk (.slice own sz es)) (fun kk=>kk .nili) (fun kk=>kk .self) (fun t e l=>fun kk=>kk (.bld t e l)) (fun kk=>kk .dead) (fun kk=>kk .nilm) (fun ks vs _=>fun kk=>kk (.mapv ks vs)) (fun kk=>kk .mapb) (fun kk=>kk .nilf) (fun f fs cs _ _=>fun kk=>kk (.func f fs cs)) (fun cs _=>fun kk=>kk (.agg cs)) (fun vs _=>fun kk=>kk (.tuple vs)) (fun id gen off len sz=>fun kk=>kk (.arr id gen off len sz)) (fun id gen sz i off=>fun kk=>kk (.aptr id gen sz i off)) (fun gen sz es _=>fun kk=>kk (.arrv gen sz es)) (fun kk=>kk .empt) (fun cs _=>fun kk=>kk (.aggr cs)) (fun id=>fun kk=>kk (.mref id)) (fun d z ks vs _ _=>fun kk=>kk (.mapo d z ks vs)) (fun sz n z _=>fun kk=>kk (.fresh sz n z)) (fun mid since seen=>fun kk=>kk (.itr mid since seen)) () (fun _ _ _ _=>()) v kk
def fl2{α:Type}(ih:(List PV→α)→α)(k:List PV→α)(x:PV):α:=ih (fun r=>k (x::r))
def EC{α:Type}(k:List PV→α)(l:List PV):α:=List.rec (motive:=fun _=>(List PV→α)→α) (fun k=>k []) (fun x _ ih k=>whV (fl2 ih k) x) l k
def OX{α β:Type}(k:List β→α)(l:List β):α:=List.rec (motive:=fun _=>(List β→α)→α) (fun k=>k []) (fun x _ ih k=>ih (fun r=>k (x::r))) l k
def fN2{α:Type}(kk:Nat→Nat→α)(x y:Nat):α:=FD (fun x=>FD (kk x) y) x
def fN4{α:Type}(kk:Nat→Nat→Nat→Nat→α)(x y z u:Nat):α:=FD (fun x=>FD (fun y=>fN2 (kk x y) z u) y) x
def Gu{α:Type}(kk:PV→α)(v:PV):α:=PV.rec (motive_1:=fun _=>(PV→α)→α) (motive_2:=fun _=>Unit) (fun b=>fun kk=>Bool.rec (motive:=fun _=>α) (kk (.bool false)) (kk (.bool true)) b) (fun k n=>fun kk=>YX (fun n=>kk (.int k n)) n) (fun s=>fun kk=>OX (fun s=>kk (.str s)) s) (fun kk=>kk .nilp) (fun v _=>fun kk=>whV (fun v=>kk (.vptr v)) v) (fun id off=>fun kk=>fN2 (fun id off=>kk (.ref id off)) id off) (fun sl off=>fun kk=>kk (.lref sl off)) (fun n=>fun kk=>kk (.hole n)) (fun kk=>kk .nils) (fun own sz es _=>fun kk=>EC (fun es=>kk (.slice own sz es)) es) (fun kk=>kk .nili) (fun kk=>kk .self) (fun t e l=>fun kk=>kk (.bld t e l)) (fun kk=>kk .dead) (fun kk=>kk .nilm) (fun ks vs _=>fun kk=>kk (.mapv ks vs)) (fun kk=>kk .mapb) (fun kk=>kk .nilf) (fun f fs cs _ _=>fun kk=>EC (fun fs=>EC (fun cs=>kk (.func f fs cs)) cs) fs) (fun cs _=>fun kk=>EC (fun cs=>kk (.agg cs)) cs) (fun vs _=>fun kk=>EC (fun vs=>kk (.tuple vs)) vs) (fun id gen off len sz=>fun kk=>fN4 (fun id gen off len=>kk (.arr id gen off len sz)) id gen off len) (fun id gen sz i off=>fun kk=>fN4 (fun id gen i off=>kk (.aptr id gen sz i off)) id gen i off) (fun gen sz es _=>fun kk=>FD (fun gen=>EC (fun es=>kk (.arrv gen sz es)) es) gen) (fun kk=>kk .empt) (fun cs _=>fun kk=>EC (fun cs=>kk (.aggr cs)) cs) (fun id=>fun kk=>FD (fun id=>kk (.mref id)) id) (fun d z ks vs _ _=>fun kk=>OX (fun ks=>EC (fun vs=>kk (.mapo d z ks vs)) vs) ks) (fun sz n z _=>fun kk=>kk (.fresh sz n z)) (fun mid since seen=>fun kk=>fN2 (fun mid since=>OX (fun seen=>kk (.itr mid since seen)) seen) mid since) () (fun _ _ _ _=>()) v kk
def fR3(ih:(List (Option PV)→Rs)→Rs)(k:List (Option PV)→Rs)(v:PV):Rs:=ih (fun r=>k (some v::r))
def fR2(ih:(List (Option PV)→Rs)→Rs)(k:List (Option PV)→Rs)(x:Option PV):Rs:=Option.rec (motive:=fun _=>Rs) (ih (fun r=>k (none::r))) (Gu (fR3 ih k)) x
def fR1(l:List (Option PV)):Rs:=List.rec (motive:=fun _=>(List (Option PV)→Rs)→Rs) (fun k=>k []) (fun x _ ih k=>fR2 ih k x) l some
def BX(r:Rs):Rs:=Option.rec (motive:=fun _=>Rs) none fR1 r
def sS0{α:Type}(x:List PV)(t:Tr)(k:Tr→α):α:=Tr.rec (motive:=fun _=>α) (k (.n (some x) .e .e)) (fun _ l r _ _=>k (.n (some x) l r)) t
def sS1{α:Type}(ih:Tr→Nat→(Tr→α)→α)(m:Nat)(v:Option (List PV))(l r:Tr)(k:Tr→α):α:=Bool.rec (motive:=fun _=>α) (ih r (Nat.div m 2) (fun t=>k (.n v l t))) (ih l (Nat.div m 2) (fun t=>k (.n v t r))) (Nat.beq (Nat.mod m 2) 0)
def sS2{α:Type}(ih:Tr→Nat→(Tr→α)→α)(t:Tr)(m:Nat)(k:Tr→α):α:=Tr.rec (motive:=fun _=>α) (sS1 ih m none .e .e k) (fun v l r _ _=>sS1 ih m v l r k) t
def UM{α:Type}(x:List PV)(f:Nat):Tr→Nat→(Tr→α)→α:=Nat.rec (motive:=fun _=>Tr→Nat→(Tr→α)→α)
 (fun t _ k=>sS0 x t k)
 (fun _ ih t i k=>Nat.rec (motive:=fun _=>α) (sS0 x t k) (fun m _=>sS2 ih t m k) i) f
def sK1{α:Type}(i:Nat)(k:SX→α)(x:List PV)(n:Nat)(t:Tr):α:=Bool.rec (motive:=fun _=>α) (k (.mk n t)) (UM x i t i (fun t=>k (.mk n t))) (Nat.blt i n)
def SX.oU{α:Type}(s:SX)(i:Nat)(x:List PV)(k:SX→α):α:=EC (fun x=>SX.rec (motive:=fun _=>α) (sK1 i k x) s) x
def pK1{α:Type}(k:SX→α)(x:List PV)(n:Nat)(t:Tr):α:=UM x n t n (fun t=>FD (fun n=>k (.mk n t)) (Nat.succ n))
def SX.iN{α:Type}(s:SX)(x:List PV)(k:SX→α):α:=EC (fun x=>SX.rec (motive:=fun _=>α) (pK1 k x) s) x
def mvR(v:PV):Rs:=PV.rec (motive_1:=fun _=>Rs) (motive_2:=fun _=>Unit) (fun b=>is1 (.bool b)) (fun k n=>is1 (.int k n)) (fun s=>is1 (.str s)) (is1 .nilp) (fun v _=>is1 (.vptr v)) (fun id off=>is1 (.ref id off)) (fun _ _=>none) (fun _=>none) (is1 .nils) (fun _ sz es _=>is1 (.slice false sz es)) (is1 .nili) none (fun _ _ _=>none) none (is1 .nilm) (fun ks vs _=>is1 (.mapv ks vs)) none (is1 .nilf) (fun f fs cs _ _=>is1 (.func f fs cs)) (fun cs _=>EC (fun cs=>is1 (.agg cs)) (cs.map PV.D8)) (fun vs _=>is1 (.tuple vs)) (fun id gen off len sz=>is1 (.arr id gen off len sz)) (fun id gen sz i off=>is1 (.aptr id gen sz i off)) (fun _ _ _ _=>none) (is1 .empt) (fun cs _=>EC (fun cs=>is1 (.aggr cs)) (cs.map PV.D8)) (fun id=>is1 (.mref id)) (fun _ _ _ _ _ _=>none) (fun _ _ _ _=>none) (fun _ _ _=>none) () (fun _ _ _ _=>()) v
def qa(v:PV):Rs:=PV.rec (motive_1:=fun _=>Rs) (motive_2:=fun _=>Unit) (fun b=>is1 (.bool b)) (fun k n=>is1 (.int k n)) (fun s=>is1 (.str s)) (is1 .nilp) (fun v _=>is1 (.vptr v)) (fun id off=>is1 (.ref id off)) (fun sl off=>is1 (.lref sl off)) (fun n=>is1 (.hole n)) (is1 .nils) (fun _ sz es _=>is1 (.slice false sz es)) (is1 .nili) none (fun _ _ _=>none) none (is1 .nilm) (fun ks vs _=>is1 (.mapv ks vs)) (is1 .mapb) (is1 .nilf) (fun f fs cs _ _=>is1 (.func f fs cs)) (fun _ _=>none) (fun vs _=>is1 (.tuple vs)) (fun id gen off len sz=>is1 (.arr id gen off len sz)) (fun id gen sz i off=>is1 (.aptr id gen sz i off)) (fun _ _ _ _=>none) (is1 .empt) (fun _ _=>none) (fun id=>is1 (.mref id)) (fun _ _ _ _ _ _=>none) (fun sz n z _=>is1 (.fresh sz n z)) (fun _ _ _=>none) () (fun _ _ _ _=>()) v
def asBool(v:PV):Option Bool:=PV.rec (motive_1:=fun _=>Option Bool) (motive_2:=fun _=>Unit) (fun b=>some b) (fun _ _=>none) (fun _=>none) none (fun _ _=>none) (fun _ _=>none) (fun _ _=>none) (fun _=>none) none (fun _ _ _ _=>none) none none (fun _ _ _=>none) none none (fun _ _ _=>none) none none (fun _ _ _ _ _=>none) (fun _ _=>none) (fun _ _=>none) (fun _ _ _ _ _=>none) (fun _ _ _ _ _=>none) (fun _ _ _ _=>none) none (fun _ _=>none) (fun _=>none) (fun _ _ _ _ _ _=>none) (fun _ _ _ _=>none) (fun _ _ _=>none) () (fun _ _ _ _=>()) v
def asInt(v:PV):Option (IntKind×Int):=PV.rec (motive_1:=fun _=>Option (IntKind×Int)) (motive_2:=fun _=>Unit) (fun _=>none) (fun k n=>some (k,n)) (fun _=>none) none (fun _ _=>none) (fun _ _=>none) (fun _ _=>none) (fun _=>none) none (fun _ _ _ _=>none) none none (fun _ _ _=>none) none none (fun _ _ _=>none) none none (fun _ _ _ _ _=>none) (fun _ _=>none) (fun _ _=>none) (fun _ _ _ _ _=>none) (fun _ _ _ _ _=>none) (fun _ _ _ _=>none) none (fun _ _=>none) (fun _=>none) (fun _ _ _ _ _ _=>none) (fun _ _ _ _=>none) (fun _ _ _=>none) () (fun _ _ _ _=>()) v
def r9(v:PV):Option (Nat×Nat):=PV.rec (motive_1:=fun _=>Option (Nat×Nat)) (motive_2:=fun _=>Unit) (fun _=>none) (fun _ _=>none) (fun _=>none) none (fun _ _=>none) (fun id off=>some (id,off)) (fun _ _=>none) (fun _=>none) none (fun _ _ _ _=>none) none none (fun _ _ _=>none) none none (fun _ _ _=>none) none none (fun _ _ _ _ _=>none) (fun _ _=>none) (fun _ _=>none) (fun _ _ _ _ _=>none) (fun _ _ _ _ _=>none) (fun _ _ _ _=>none) none (fun _ _=>none) (fun _=>none) (fun _ _ _ _ _ _=>none) (fun _ _ _ _=>none) (fun _ _ _=>none) () (fun _ _ _ _=>()) v
def AzK(v:PV):Option (Nat×Nat×Nat×Nat×Nat):=PV.rec (motive_1:=fun _=>Option (Nat×Nat×Nat×Nat×Nat)) (motive_2:=fun _=>Unit) (fun _=>none) (fun _ _=>none) (fun _=>none) none (fun _ _=>none) (fun _ _=>none) (fun _ _=>none) (fun _=>none) none (fun _ _ _ _=>none) none none (fun _ _ _=>none) none none (fun _ _ _=>none) none none (fun _ _ _ _ _=>none) (fun _ _=>none) (fun _ _=>none) (fun id gen off len sz=>some (id,gen,off,len,sz)) (fun _ _ _ _ _=>none) (fun _ _ _ _=>none) none (fun _ _=>none) (fun _=>none) (fun _ _ _ _ _ _=>none) (fun _ _ _ _=>none) (fun _ _ _=>none) () (fun _ _ _ _=>()) v
def AQV(v:PV):Option (Nat×List PV):=PV.rec (motive_1:=fun _=>Option (Nat×List PV)) (motive_2:=fun _=>Unit) (fun _=>none) (fun _ _=>none) (fun _=>none) none (fun _ _=>none) (fun _ _=>none) (fun _ _=>none) (fun _=>none) none (fun _ sz es _=>some (sz,es)) none none (fun _ _ _=>none) none none (fun _ _ _=>none) none none (fun _ _ _ _ _=>none) (fun _ _=>none) (fun _ _=>none) (fun _ _ _ _ _=>none) (fun _ _ _ _ _=>none) (fun _ _ _ _=>none) none (fun _ _=>none) (fun _=>none) (fun _ _ _ _ _ _=>none) (fun _ _ _ _=>none) (fun _ _ _=>none) () (fun _ _ _ _=>()) v
def AzJ(v:PV):Option (FuncId×List PV×List PV):=PV.rec (motive_1:=fun _=>Option (FuncId×List PV×List PV)) (motive_2:=fun _=>Unit) (fun _=>none) (fun _ _=>none) (fun _=>none) none (fun _ _=>none) (fun _ _=>none) (fun _ _=>none) (fun _=>none) none (fun _ _ _ _=>none) none none (fun _ _ _=>none) none none (fun _ _ _=>none) none none (fun f fs cs _ _=>some (f,fs,cs)) (fun _ _=>none) (fun _ _=>none) (fun _ _ _ _ _=>none) (fun _ _ _ _ _=>none) (fun _ _ _ _=>none) none (fun _ _=>none) (fun _=>none) (fun _ _ _ _ _ _=>none) (fun _ _ _ _=>none) (fun _ _ _=>none) () (fun _ _ _ _=>()) v
def pk2(x y:PV)(b:Bool):Rs:=Bool.rec (motive:=fun _=>Rs) (mvR y) (mvR x) b
def iX(c x y:PV):Rs:=Option.rec (motive:=fun _=>Rs) none (pk2 x y) (asBool c)
def fa1(off0:Nat)(id off:Nat):Rs:=FD (fun off=>is1 (.ref id off)) (Nat.add off off0)
def faR(off0 n:Nat)(ag:Bool)(x:PV):Rs:=Option.rec (motive:=fun _=>Rs) (BX (AJ (.fa off0 n ag) [x])) (Prod.rec (motive:=fun _=>Rs) (fa1 off0)) (r9 x)
def vG(x:PV):Rs:=PV.rec (motive_1:=fun _=>Rs) (motive_2:=fun _=>Unit) (fun _=>none) (fun _ _=>none) (fun _=>none) none (fun v _=>is1 (.vptr v)) (fun id off=>is1 (.ref id off)) (fun _ _=>none) (fun _=>none) none (fun _ _ _ _=>none) none none (fun _ _ _=>none) none none (fun _ _ _=>none) none none (fun f fs cs _ _=>is1 (.func f fs cs)) (fun _ _=>none) (fun _ _=>none) (fun _ _ _ _ _=>none) (fun id gen sz i off=>is1 (.aptr id gen sz i off)) (fun _ _ _ _=>none) none (fun _ _=>none) (fun _=>none) (fun _ _ _ _ _ _=>none) (fun _ _ _ _=>none) (fun _ _ _=>none) () (fun _ _ _ _=>()) x
def Aw0(x:PV):Rs:=PV.rec (motive_1:=fun _=>Rs) (motive_2:=fun _=>Unit) (fun _=>none) (fun _ _=>none) (fun s=>FD (fun n=>is1 (.int .i64 (Int.ofNat n))) (Jg s)) none (fun _ _=>none) (fun _ _=>none) (fun _ _=>none) (fun _=>none) none (fun _ _ _ _=>none) none none (fun _ _ _=>none) none none (fun _ _ _=>none) none none (fun _ _ _ _ _=>none) (fun _ _=>none) (fun _ _=>none) (fun _ _ _ _ _=>none) (fun _ _ _ _ _=>none) (fun _ _ _ _=>none) none (fun _ _=>none) (fun _=>none) (fun _ _ _ _ _ _=>none) (fun _ _ _ _=>none) (fun _ _ _=>none) () (fun _ _ _ _=>()) x
def Aw1(x:PV):Rs:=PV.rec (motive_1:=fun _=>Rs) (motive_2:=fun _=>Unit) (fun _=>none) (fun _ _=>none) (fun _=>none) none (fun _ _=>none) (fun _ _=>none) (fun _ _=>none) (fun _=>none) (is1 (.int .i64 (Int.ofNat 0))) (fun _ _ es _=>FD (fun n=>is1 (.int .i64 (Int.ofNat n))) (Jg es)) none none (fun _ _ _=>none) none none (fun _ _ _=>none) none none (fun _ _ _ _ _=>none) (fun _ _=>none) (fun _ _=>none) (fun _ _ _ len _=>is1 (.int .i64 (Int.ofNat len))) (fun _ _ _ _ _=>none) (fun _ _ _ _=>none) (is1 (.int .i64 (Int.ofNat 0))) (fun _ _=>none) (fun _=>none) (fun _ _ _ _ _ _=>none) (fun _ _ _ _=>none) (fun _ _ _=>none) () (fun _ _ _ _=>()) x
def uU(st:Bool)(x:PV):Rs:=Bool.rec (motive:=fun _=>Rs) (Aw1 x) (Aw0 x) st
def wr2(k:IntKind)(m:Nat):Int:=Bool.rec (motive:=fun _=>Int) (k.wrap (Int.ofNat m)) (Bool.rec (motive:=fun _=>Int) (k.wrap (Int.ofNat m)) (Int.ofNat m) (Nat.blt m 9223372036854775808)) (Nat.beq (Vp k) 3)
def wr1(k:IntKind)(m:Nat):Int:=Bool.rec (motive:=fun _=>Int) (wr2 k m) (Int.ofNat m) (Nat.blt m 128)
def VS(k:IntKind)(n:Int):Int:=Int.rec (motive:=fun _=>Int) (wr1 k) (fun m=>k.wrap (Int.negSucc m)) n
def lt1(b:Int)(m:Nat):Bool:=Int.rec (motive:=fun _=>Bool) (Nat.blt m) (fun _=>false) b
def lt2(b:Int)(m:Nat):Bool:=Int.rec (motive:=fun _=>Bool) (fun _=>true) (fun n=>Nat.blt n m) b
def NM(a b:Int):Bool:=Int.rec (motive:=fun _=>Bool) (lt1 b) (lt2 b) a
def eq1(b:Int)(m:Nat):Bool:=Int.rec (motive:=fun _=>Bool) (Nat.beq m) (fun _=>false) b
def eq2(b:Int)(m:Nat):Bool:=Int.rec (motive:=fun _=>Bool) (fun _=>false) (Nat.beq m) b
def XC(a b:Int):Bool:=Int.rec (motive:=fun _=>Bool) (eq1 b) (eq2 b) a
def bT(r:Bool):Rs:=Bool.rec (motive:=fun _=>Rs) (is1 (.bool false)) (is1 (.bool true)) r
def gd(k k':IntKind)(r:Bool):Rs:=Bool.rec (motive:=fun _=>Rs) none (bT r) (Nat.beq (Vp k) (Vp k'))
def gi(k k':IntKind)(r:Int):Rs:=Bool.rec (motive:=fun _=>Rs) none (YX (fun r=>is1 (.int k r)) r) (Nat.beq (Vp k) (Vp k'))
abbrev BF:=Nat→IntKind→Int→IntKind→Int→Rs
def AzH:BF:=fun _ k a k' b=>gi k k' (VS k (Int.add a b))
def AzA:BF:=fun _ k a k' b=>gi k k' (VS k (Int.sub a b))
def AzG:BF:=fun _ k a k' b=>gd k k' (XC a b)
def AzB:BF:=fun _ k a k' b=>gd k k' (not (XC a b))
def AzC:BF:=fun _ k a k' b=>gd k k' (NM a b)
def AzD:BF:=fun _ k a k' b=>gd k k' (not (NM b a))
def AzE:BF:=fun _ k a k' b=>gd k k' (NM b a)
def AzF:BF:=fun _ k a k' b=>gd k k' (not (NM a b))
def b_o(op:BinOp):BF:=fun c k a k' b=>BX (AJ (.bin op c) [.int k a,.int k' b])
def rZ(op:BinOp):BF:=BinOp.rec (motive:=fun _=>BF) AzH AzA (b_o .mul) (b_o .quo) (b_o .rem) (b_o .and) (b_o .or) (b_o .xor) (b_o .shl) (b_o .shr) (b_o .andNot) AzG AzB AzC AzD AzE AzF op
def bi2(op:BinOp)(c:Nat)(k:IntKind)(a:Int)(k':IntKind)(b:Int):Rs:=rZ op c k a k' b
def bi1(op:BinOp)(c:Nat)(y:PV)(k:IntKind)(a:Int):Rs:=Option.rec (motive:=fun _=>Rs) (BX (AJ (.bin op c) [.int k a,y])) (Prod.rec (motive:=fun _=>Rs) (bi2 op c k a)) (asInt y)
def vP(op:BinOp)(c:Nat)(x y:PV):Rs:=Option.rec (motive:=fun _=>Rs) (BX (AJ (.bin op c) [x,y])) (Prod.rec (motive:=fun _=>Rs) (bi1 op c y)) (asInt x)
def ix4(v:PV):Rs:=is1 (.vptr v)
def ix3(size m sz:Nat)(es:List PV):Rs:=Bool.rec (motive:=fun _=>Rs) none (Option.rec (motive:=fun _=>Rs) none ix4 (pU es m)) (Nat.beq sz size)
def ix5(size m id gen off len sz:Nat):Rs:=Bool.rec (motive:=fun _=>Rs) none (Bool.rec (motive:=fun _=>Rs) none (FD (fun i=>is1 (.aptr id gen size i 0)) (Nat.add off m)) (Nat.blt m len)) (Nat.beq sz size)
def ix6(size m:Nat)(p:Nat×Nat×Nat×Nat×Nat):Rs:=ix5 size m p.1 p.2.1 p.2.2.1 p.2.2.2.1 p.2.2.2.2
def ix2(size:Nat)(x:PV)(m:Nat):Rs:=Option.rec (motive:=fun _=>Rs) (Option.rec (motive:=fun _=>Rs) none (ix6 size m) (AzK x)) (Prod.rec (motive:=fun _=>Rs) (ix3 size m)) (AQV x)
def ix1(size:Nat)(x:PV)(_:IntKind)(n:Int):Rs:=Int.rec (motive:=fun _=>Rs) (ix2 size x) (fun _=>none) n
def u6(size:Nat)(x i:PV):Rs:=Option.rec (motive:=fun _=>Rs) none (Prod.rec (motive:=fun _=>Rs) (ix1 size x)) (asInt i)
def gV(k:PK):List PV→Rs:=PK.rec (motive:=fun _=>List PV→Rs)
 (fun vs=>k1 mvR vs)
 (fun vs=>BX (AJ .mvo vs))
 (fun vs=>k3 iX vs)
 (fun vs=>BX (AJ .bx vs))
 (fun vs=>BX (AJ .bxl vs))
 (fun z vs=>List.rec (motive:=fun _=>Rs) (is1 z) (fun _ _ _=>none) vs)
 (fun n vs=>List.rec (motive:=fun _=>Rs) (is1 (.hole n)) (fun _ _ _=>none) vs)
 (fun n vs=>BX (AJ (.sti n) vs))
 (fun off n ag vs=>BX (AJ (.ldl off n ag) vs))
 (fun d n ag vs=>BX (AJ (.ldf d n ag) vs))
 (fun off n vs=>BX (AJ (.stl off n) vs))
 (fun d n vs=>BX (AJ (.stf d n) vs))
 (fun d vs=>BX (AJ (.ldfo d) vs))
 (fun d vs=>BX (AJ (.stfo d) vs))
 (fun d off vs=>BX (AJ (.fal d off) vs))
 (fun off n ag vs=>k1 (faR off n ag) vs)
 (fun n ag vs=>BX (AJ (.ldp n ag) vs))
 (fun zero parts vs=>BX (AJ (.build zero parts) vs))
 (fun size vs=>BX (AJ (.bsl size) vs))
 (fun op c vs=>k2 (vP op c) vs)
 (fun vs=>BX (AJ .not vs))
 (fun k vs=>BX (AJ (.cvt k) vs))
 (fun f nf vs=>BX (AJ (.mkf f nf) vs))
 (fun zero ok int vs=>BX (AJ (.look zero ok int) vs))
 (fun size vs=>k2 (u6 size) vs)
 (fun vs=>BX (AJ .sidx vs))
 (fun lo hi vs=>BX (AJ (.ssl lo hi) vs))
 (fun size lo hi vs=>BX (AJ (.vsl size lo hi) vs))
 (fun str vs=>k1 (uU str) vs)
 (fun i vs=>BX (AJ (.ext i) vs))
 (fun vs=>k1 vG vs)
 (fun vs=>BX (AJ .min vs))
 (fun vs=>BX (AJ .max vs))
 (fun size vs=>BX (AJ (.app size) vs))
 (fun vs=>BX (AJ .mkm vs))
 (fun key keys vs=>BX (AJ (.ins key keys) vs))
 (fun keys vs=>BX (AJ (.mvb keys) vs))
 (fun vs=>BX (AJ .cvb vs))
 (fun vs=>BX (AJ .cvs vs))
 (fun vs=>BX (AJ .cvi vs))
 (fun off n ag vs=>BX (AJ (.fld off n ag) vs))
 (fun vs=>BX (AJ .no vs))
 (fun vs=>BX (AJ .cut0 vs))
 (fun vs=>BX (AJ .cap0 vs))
 (fun vs=>BX (AJ .bse vs))
 (fun neq vs=>BX (AJ (.snil neq) vs))
 (fun neq ts vs=>BX (AJ (.aeq neq ts) vs))
 (fun n size ag vs=>BX (AJ (.ixa n size ag) vs))
 (fun d n size vs=>BX (AJ (.ixl d n size) vs))
 (fun size z vs=>BX (AJ (.mkz size z) vs))
 (fun neq vs=>BX (AJ (.pnil neq) vs)) k
def onS(s:SX)(r:Rs):RsX:=Option.rec (motive:=fun _=>RsX) none (fun rs=>some (rs,s)) r
def su2(v:PV):Rs:=Gu is1 v.Ag
def su1(cs:List PV)(off n:Nat):Rs:=Bool.rec (motive:=fun _=>Rs) none (Option.rec (motive:=fun _=>Rs) none su2 (Iu ((cs.drop off).take n))) (Nat.ble (Nat.add off n) (Jg cs))
def sQ(off n:Nat)(ag:Bool)(cs:List PV):Rs:=Bool.rec (motive:=fun _=>Rs) (Option.rec (motive:=fun _=>Rs) none qa (pU cs off)) (su1 cs off n) ag
def ld2(n:Nat)(ag:Bool)(s:SX)(id off:Nat):Rs:=Option.rec (motive:=fun _=>Rs) none (sQ off n ag) (s.get id)
def ld3(n0:Nat)(ag:Bool)(s:SX)(x:PV):Rs:=BX (match x with
 |.vptr v=>(ldV n0 ag (.vptr v)).map fun v=>[some v.Ag]
 |.aptr id gen sz i off=>match s.get id with
  |some cs=>match Dq cs gen sz with
   |some es=>match es[i]? with
    |some e=>(Yg e off n0 ag).map fun v=>[some v.Ag]
    |none=>none
   |none=>none
  |none=>none
 |_=>none)
def ldX(n:Nat)(ag:Bool)(s:SX)(x:PV):Rs:=Option.rec (motive:=fun _=>Rs) (ld3 n ag s x) (Prod.rec (motive:=fun _=>Rs) (ld2 n ag s)) (r9 x)
def lkX(z:PV)(ok:Bool)(d:KD)(vs:List PV)(s:SX):Rs:=match vs with
 |[.mref id,k]=>match mapOf (s.get id),MJ d k with
  |some (d',z',ks,vs),some x=>if d'=d∧O9 z z'=true then(match Gq x ks vs with
    |some v=>lkR ok v true
    |none=>lkR ok z' false) else none
  |_,_=>none
 |[.nilm,k]=>match MJ d k with
  |some _=>lkR ok z false
  |none=>none
 |_=>none
def lnX(vs:List PV)(s:SX):Rs:=match vs with
 |[.mref id]=>match mapOf (s.get id) with
  |some (_,_,ks,_)=>some [some (.int .i64 ks.length)]
  |none=>none
 |[.nilm]=>some [some (.int .i64 0)]
 |_=>none
def enX(vs:List PV)(s:SX):Rs:=match vs with
 |[.ref id 0]=>match FC (s.get id) with
  |some (mid,since,seen)=>match mapOf (s.get mid),seen.getLast? with
   |some (_,_,ks,vs),some j=>match ks[j]?,vs[j]? with
    |some k,some v=>if ks.length=since∧(v.flat||v.EF)=true then some [some (.tuple [k.pv,v.Ag])] else none
    |_,_=>none
   |_,_=>none
  |none=>none
 |_=>none
def gT(k:RK):List PV→SX→Rs:=RK.rec (motive:=fun _=>List PV→SX→Rs) (fun n ag vs s=>k1 (ldX n ag s) vs) (fun z ok d vs s=>BX (lkX z ok d vs s)) (fun vs s=>BX (lnX vs s)) (fun vs s=>BX (enX vs s)) k
abbrev DN:=FuncId→List PV→SX→Option (PV×SX)
def Ie(vs:List PV):Bool:=List.rec (motive:=fun _=>Bool) true (fun v _ ih=>and v.free ih) vs
def Ph(s:SX)(x:List PV)(r:Nat→List (Option PV)):RsX:=FD (fun id=>s.iN x (fun s'=>some (r id,s'))) s.len
def Yz(s:SX)(id:Nat)(x:PV)(r:List (Option PV)):RsX:=Gu (fun o=>s.oU id [o] (fun s'=>some (r,s'))) x
def MN(s:SX)(x:PV)(r:Nat→List (Option PV)):RsX:=Gu (fun o=>Ph s [o] r) x
def Vg(k:WK)(vs:List PV)(s:SX):RsX:=(Cq (fun _=>false) (fun _ _ _=>none) k vs s.toL).map fun r=>(r.1,SX.ofL r.2)
def pg(s:SX)(id gen off len size:Nat):Option (List PV):=match s.get id with
 |some cs=>match Dq cs gen size with
  |some es=>if off+len≤es.length then some ((es.drop off).take len) else none
  |none=>none
 |none=>none
def aP(size:Nat)(s:SX):PV→Option (List PV)
 |.slice _ sz xs=>if sz=size then some xs else none
 |.nils | .empt=>some []
 |.arr id gen off len sz=>if sz=size then pg s id gen off len size else none
 |_=>none
def Ut(size:Nat)(v:PV)(xs:List PV)(s:SX):RsX:=match v with
 |.nils=>if xs.isEmpty then some ([some .nils],s)
  else if xs.length≤Cb∧xs.all PV.ones∧xs.all PV.okc then MN s (.arrv 0 size (xs.map PV.Ag)) (fun id=>[some (.arr id 0 0 xs.length size)]) else none
 |.empt=>if xs.isEmpty then some ([some .empt],s)
  else if xs.length≤Cb∧xs.all PV.ones∧xs.all PV.okc then MN s (.arrv 0 size (xs.map PV.Ag)) (fun id=>[some (.arr id 0 0 xs.length size)]) else none
 |.arr id gen off len sz=>if sz=size then match pg s id gen off len size with
   |some es=>if xs.isEmpty then some ([some (.arr id gen off len sz)],s)
    else if len+xs.length≤Cb∧xs.all PV.ones∧xs.all PV.okc then
     Gu (fun r=>Yz s id (.arrv (gen+1) size (es++xs.map PV.Ag)) [some r]) (.arr id (gen+1) 0 (len+xs.length) size)
    else none
   |none=>none
  else none
 |_=>none
def stX(n:Nat)(vs:List PV)(s:SX):RsX:=match vs with
 |[.ref id off,v]=>match s.get id with
  |some cs=>if v.cells.length=n∧off+n≤cs.length∧v.okc∧v.ones∧cs.any PV.isSelf=false then s.oU id (EJ cs off v.Ag.cells) (fun s'=>some ([],s')) else none
  |none=>none
 |[.aptr id gen size i off,v]=>match s.get id with
  |some cs=>match Dq cs gen size with
   |some es=>match es[i]? with
    |some e=>if v.cells.length=n∧v.okc∧v.ones then(match upd e off v.Ag with
     |some e'=>Gu (fun e'=>Yz s id (.arrv gen size (es.set i e')) []) e'
     |none=>none) else none
    |none=>none
   |none=>none
  |none=>none
 |_=>none
def upX(d:KD)(vs:List PV)(s:SX):RsX:=match vs with
 |[.mref id,k,v]=>match mapOf (s.get id),MJ d k with
  |some (d',z',ks,vs),some x=>if d'=d∧v.free then(match FT x ks with
    |some j=>Yz s id (.mapo d' z' ks (vs.set j v.Ag)) []
    |none=>if ks.length<Cb then Yz s id (.mapo d' z' (ks++[x]) (vs++[v.Ag])) [] else none) else none
  |_,_=>none
 |_=>none
def rgX(vs:List PV)(s:SX):RsX:=match vs with
 |[.mref id]=>match mapOf (s.get id) with
  |some (_,_,ks,_)=>MN s (.itr id ks.length []) (fun i=>[some (.ref i 0)])
  |none=>none
 |_=>none
def nxX(vs:List PV)(s:SX):RsX:=match vs with
 |[.ref id 0]=>match FC (s.get id) with
  |some (mid,since,seen)=>match mapOf (s.get mid) with
   |some (_,_,ks,vs)=>if ks.length=since then match Fe since seen with
    |[]=>some ([some (.tuple [.bool false])],s)
    |[j]=>match ks[j]?,vs[j]? with
     |some k,some v=>if(v.flat||v.EF)=true then Gu (fun r=>Yz s id (.itr mid since (seen++[j])) [some r]) (.tuple [.bool true,k.pv,v.Ag]) else none
     |_,_=>none
    |_=>none
    else none
   |none=>none
  |none=>none
 |_=>none
def uB(size:Nat)(z:PV)(vs:List PV)(s:SX):RsX:=match vs with
 |[.int _ n,.int _ m]=>if n=m∧0≤n∧n≤Cb∧z.cells.length=size∧z.ones then FD (fun n=>MN s (.arrv 0 size (List.replicate n z)) (fun id=>[some (.arr id 0 0 n size)])) n.toNat else none
 |_=>none
def ca3(s:SX)(r:PV):RsX:=some ([some r],s)
def ca2(s:SX)(r:PV)(_:SX):RsX:=Bool.rec (motive:=fun _=>RsX) none (Gu (ca3 s) r.Ag) r.flat
def ca1(r:PV)(s:SX):RsX:=Gu (ca3 s) r.Ag
def QV(call:DN)(f:FuncId)(s:SX)(vs:List PV):RsX:=Option.rec (motive:=fun _=>RsX) none (Prod.rec (motive:=fun _=>RsX) (ca2 s)) (call f vs SX.nil)
def qm(call:DN)(f:FuncId)(s:SX)(vs:List PV):RsX:=Option.rec (motive:=fun _=>RsX) none (Prod.rec (motive:=fun _=>RsX) ca1) (call f vs s)
def Uo(pur:FuncId→Bool)(call:DN)(f:FuncId)(vs:List PV)(s:SX):RsX:=
 Bool.rec (motive:=fun _=>RsX) (EC (qm call f s) (vs.map PV.Ag)) (Bool.rec (motive:=fun _=>RsX) none (EC (QV call f s) (vs.map PV.Ag)) (vs.all PV.flat)) (pur f)
def cd3(pur:FuncId→Bool)(call:DN)(l:List PV)(s:SX)(f:FuncId)(p:List PV×List PV):RsX:=Uo pur call f (p.1++l++p.2) s
def cd2(pur:FuncId→Bool)(call:DN)(v:PV)(l:List PV)(s:SX):RsX:=Bool.rec (motive:=fun _=>RsX) none (Option.rec (motive:=fun _=>RsX) none (Prod.rec (motive:=fun _=>RsX) (cd3 pur call l s)) (AzJ v)) (Ie l)
def vH(pur:FuncId→Bool)(call:DN)(vs:List PV)(s:SX):RsX:=List.rec (motive:=fun _=>RsX) none (fun v l _=>cd2 pur call v l s) vs
def czX(call:DN)(f:FuncId)(vs:List PV)(s:SX):RsX:=match call f (vs.map PV.Ag) s with
 |some (r,s')=>(u7 r s'.toL).map fun x=>([some x.1],SX.ofL x.2)
 |none=>none
def qP(pur:FuncId→Bool)(call:DN)(k:WK):List PV→SX→RsX:=WK.rec (motive:=fun _=>List PV→SX→RsX)
 (fun z vs s=>List.rec (motive:=fun _=>RsX) (Ph s z (fun id=>[some (.ref id 0)])) (fun _ _ _=>none) vs)
 (fun t e vs s=>Vg (.alB t e) vs s)
 (fun vs s=>match vs with | [v]=>if v.okc then Ph s v.Ag.cells (fun id=>[some (.ref id 0)]) else none | _=>none)
 (fun n vs s=>stX n vs s) (fun vs s=>Vg .ldo vs s) (fun vs s=>Vg .sto vs s)
 (fun f vs s=>Bool.rec (motive:=fun _=>RsX) none (Uo pur call f vs s) (Ie vs))
 (fun vs s=>vH pur call vs s)
 (fun size vs s=>match vs with | [v,x]=>(match aP size s x with | some xs=>Ut size v xs s | none=>none) | _=>none)
 (fun vs s=>Vg .frz vs s)
 (fun size z vs s=>uB size z vs s) (fun size z vs s=>Vg (.appZ size z) vs s)
 (fun f vs s=>Bool.rec (motive:=fun _=>RsX) none (czX call f vs s) (Ie vs))
 (fun n k vs s=>Vg (.ldz n k) vs s)
 (fun z d vs s=>List.rec (motive:=fun _=>RsX) (MN s (.mapo d z.Ag [] []) (fun id=>[some (.mref id)])) (fun _ _ _=>none) vs)
 (fun d vs s=>upX d vs s) (fun z d vs s=>Vg (.enM z d) vs s) (fun vs s=>Vg .esM vs s)
 (fun vs s=>match vs with | [.fresh size n z]=>MN s (.arrv 0 size (List.replicate n z)) (fun id=>[some (.arr id 0 0 n size),none]) | _=>none)
 (fun size vs s=>if vs.isEmpty=false∧vs.all (fun v=>v.cells.length==size&&v.okc&&v.ones) then MN s (.arrv 0 size (vs.map PV.Ag)) (fun id=>[some (.arr id 0 0 vs.length size)]) else none)
 (fun vs s=>rgX vs s) (fun vs s=>nxX vs s)
 (fun n vs s=>match vs with | [.hole m,v]=>if m=n∧v.cells.length=n∧v.okc∧v.ones then Ph s v.Ag.cells (fun id=>[some (.ref id 0)]) else none | _=>none) k
def sA(k:PK)(vs:List PV)(s:SX):RsX:=onS s (gV k vs)
def sB(k:RK)(vs:List PV)(s:SX):RsX:=onS s (gT k vs s)
def sC(call:DN)(f:FuncId)(vs:List PV)(s:SX):RsX:=Bool.rec (motive:=fun _=>RsX) none (Bool.rec (motive:=fun _=>RsX) none (EC (QV call f s) (vs.map PV.Ag)) (vs.all PV.flat)) (Ie vs)
def o5(pur:FuncId→Bool)(call:DN)(k:AK):List PV→SX→RsX:=AK.rec (motive:=fun _=>List PV→SX→RsX) sA sB (qP pur call) (sC call) k
inductive Fr where
 |nil
 |cons (t:Nat) (v:Option PV) (r:Fr)
def Fr.toF(f:Fr):FF:=Fr.rec (motive:=fun _=>FF) [] (fun t v _ ih=>(t,v)::ih) f
def OT(f:Fr)(t:Nat):Option PV:=Fr.rec (motive:=fun _=>Option PV) none (fun n v _ ih=>Bool.rec (motive:=fun _=>Option PV) ih v (Nat.beq n t)) f
abbrev RFX:=Option (Fr×SX)
abbrev RXX:=Option (Bt×Fr×SX)
def ev3(ih:(List PV→RFX)→RFX)(k:List PV→RFX)(v:PV):RFX:=ih (fun vs=>k (v::vs))
def ev2(ff:Fr)(ih:(List PV→RFX)→RFX)(k:List PV→RFX)(t:Nat):RFX:=Option.rec (motive:=fun _=>RFX) none (ev3 ih k) (OT ff t)
def XP(ff:Fr)(az:List Ct)(k:List PV→RFX):RFX:=
 List.rec (motive:=fun _=>(List PV→RFX)→RFX) (fun k=>k []) (fun a _ ih k=>Ct.rec (motive:=fun _=>RFX) (ev2 ff ih k) (ev3 ih k) a) az k
def Yy(ts:List Nat):List (Option PV)→Fr→(Fr→RFX)→RFX:=
 List.rec (motive:=fun _=>List (Option PV)→Fr→(Fr→RFX)→RFX) (fun _ ff k=>k ff) (fun t _ ih vs ff k=>List.rec (motive:=fun _=>RFX) (k ff) (fun v vs _=>ih vs (.cons t v ff) k) vs) ts
def vE(ts:List Nat):Fr→(Fr→RFX)→RFX:=List.rec (motive:=fun _=>Fr→(Fr→RFX)→RFX) (fun ff k=>k ff) (fun t _ ih ff k=>ih (.cons t none ff) k) ts
def en(s:SX)(ff:Fr):RFX:=some (ff,s)
def Yq(clr:List Nat)(s:SX)(ff:Fr):RFX:=vE clr ff (en s)
def AzV(ex clr:List Nat)(s:SX)(ff:Fr)(rs:List (Option PV)):RFX:=Bool.rec (motive:=fun _=>RFX) none (Yy ex rs ff (Yq clr s)) (Nat.beq (Jg rs) (Jg ex))
def AzW(d:Nat)(ex clr:List Nat)(ff:Fr)(rs:List (Option PV))(s:SX):RFX:=List.rec (motive:=fun _=>RFX) none (fun v rs _=>AzV ex clr s (.cons d v ff) rs) rs
def AzX(ex clr:List Nat)(ff:Fr)(rs:List (Option PV))(s:SX):RFX:=Bool.rec (motive:=fun _=>RFX) (Bool.rec (motive:=fun _=>RFX) none (en s ff) (and (nul ex) (nul clr))) (Yy ex rs ff (Yq clr s)) (Nat.beq (Jg rs) (Jg ex))
def tN(dst:Option Nat)(ex clr:List Nat)(ff:Fr)(rs:List (Option PV))(s:SX):RFX:=Option.rec (motive:=fun _=>RFX) (AzX ex clr ff rs s) (fun d=>AzW d ex clr ff rs s) dst
def iE(pur:FuncId→Bool)(call:DN)(dst:Option Nat)(kd:AK)(ex clr:List Nat)(ff:Fr)(s:SX)(vs:List PV):RFX:=Option.rec (motive:=fun _=>RFX) none (Prod.rec (motive:=fun _=>RFX) (tN dst ex clr ff)) (o5 pur call kd vs s)
def Wo(pur:FuncId→Bool)(call:DN)(dst:Option Nat)(kd:AK)(args:List Ct)(ex clr:List Nat)(ff:Fr)(s:SX):RFX:=XP ff args (iE pur call dst kd ex clr ff s)
def ex3(dst:Option Nat)(ex clr:List Nat)(ff:Fr)(s:SX):RFX:=Bool.rec (motive:=fun _=>RFX) none (Option.rec (motive:=fun _=>RFX) (some (ff,s)) (fun d=>some (.cons d (some Iy) ff,s)) dst) (and (nul ex) (nul clr))
def ex2(pur:FuncId→Bool)(call:DN)(dst:Option Nat)(kd:AK)(args:List Ct)(ex clr:List Nat)(ff:Fr)(s:SX)(g:Nat×Bool):RFX:=Option.rec (motive:=fun _=>RFX) none (fun b=>Bool.rec (motive:=fun _=>RFX) (ex3 dst ex clr ff s) (Wo pur call dst kd args ex clr ff s) b) (Ex (OT ff g.1) g.2)
def ex1(pur:FuncId→Bool)(call:DN)(ff:Fr)(s:SX)(gd:Option (Nat×Bool))(dst:Option Nat)(kd:AK)(args:List Ct)(ex clr:List Nat):RFX:=Option.rec (motive:=fun _=>RFX) (Wo pur call dst kd args ex clr ff s) (ex2 pur call dst kd args ex clr ff s) gd
def Sk(pur:FuncId→Bool)(call:DN)(o:AOp)(ff:Fr)(s:SX):RFX:=AOp.rec (motive:=fun _=>RFX) (ex1 pur call ff s) o
def op1(ih:Fr→SX→RXX)(r:RFX):RXX:=Option.rec (motive:=fun _=>RXX) none (Prod.rec (motive:=fun _=>RXX) ih) r
def fin(ff:Fr)(s:SX):RXX:=some (.normal,ff,s)
def ul(pur:FuncId→Bool)(call:DN)(os:List AOp):Fr→SX→RXX:=
 List.rec (motive:=fun _=>Fr→SX→RXX) fin (fun o _ ih ff s=>op1 ih (Sk pur call o ff s)) os
def tr1(ff:Fr)(s:SX)(l:Option (List (Fr×SX))):Option (List (Fr×SX)):=Option.rec (motive:=fun _=>Option (List (Fr×SX))) none (fun l=>some ((ff,s)::l)) l
def trX(pur:FuncId→Bool)(call:DN)(os:List AOp):Fr→SX→Option (List (Fr×SX)):=
 List.rec (motive:=fun _=>Fr→SX→Option (List (Fr×SX))) (fun ff s=>some [(ff,s)]) (fun o _ ih ff s=>
  Option.rec (motive:=fun _=>Option (List (Fr×SX))) none (fun r=>tr1 ff s (Prod.rec (motive:=fun _=>Option (List (Fr×SX))) ih r)) (Sk pur call o ff s)) os
def YM(ops:List AOp)(tr:List (Fr×SX))(lo:List (Nat×Nat)):Bool:=Rm ops (tr.map fun x=>(x.1.toF,x.2.toL)) lo
def kU(x:Option (Fr×SX)):RXX:=Option.rec (motive:=fun _=>RXX) none (Prod.rec (motive:=fun _=>RXX) fin) x
def lV(pur:FuncId→Bool)(call:DN)(ops:List AOp)(lo:List (Nat×Nat))(ff:Fr)(s:SX):RXX:=
 Option.rec (motive:=fun _=>RXX) none (fun tr=>Bool.rec (motive:=fun _=>RXX) none (kU tr.getLast?) (YM ops tr lo)) (trX pur call ops ff s)
def ma1{α:Type}(ih:Nat→(Fr→α)→α)(k:Fr→α)(n:Nat)(v:Option PV):α:=FD (fun m=>ih m (fun r=>k (.cons n v r))) (Nat.succ n)
def ma2{α:Type}(ih:Nat→(Fr→α)→α)(k:Fr→α)(n:Nat)(v:Option PV):α:=Option.rec (motive:=fun _=>α) (ma1 ih k n none) (fun v=>ma1 ih k n (some v)) v
def Re{α:Type}(ff:Fr)(keep:List Bool):Nat→(Fr→α)→α:=
 List.rec (motive:=fun _=>Nat→(Fr→α)→α) (fun _ k=>k .nil) (fun b _ ih n k=>Bool.rec (motive:=fun _=>α) (FD (fun m=>ih m k) (Nat.succ n)) (ma2 ih k n (OT ff n)) b) keep
def it1(keep:List Bool)(ih:Fr→SX→RXX)(e:Bt)(ff:Fr)(s:SX):RXX:=Bt.rec (motive:=fun _=>RXX) (Re ff keep 0 (fun ff=>ih ff s)) (fun i=>some (.exit i,ff,s)) (some (.ret,ff,s)) e
def it2(f:Bt→Fr→SX→RXX)(e:Bt)(r:Fr×SX):RXX:=Prod.rec (motive:=fun _=>RXX) (f e) r
def it3(f:Bt→Fr→SX→RXX)(r:RXX):RXX:=Option.rec (motive:=fun _=>RXX) none (Prod.rec (motive:=fun _=>RXX) (it2 f)) r
def Rx(keep:List Bool)(body:Fr→SX→RXX)(n:Nat):Fr→SX→RXX:=
 Nat.rec (motive:=fun _=>Fr→SX→RXX) (fun _ _=>none) (fun _ ih ff s=>it3 (it1 keep ih) (body ff s)) n
def co2(x y:RXX)(b:Bool):RXX:=Bool.rec (motive:=fun _=>RXX) y x b
def co1(x y:RXX)(v:PV):RXX:=Option.rec (motive:=fun _=>RXX) none (co2 x y) (asBool v)
def rX(v:Option PV)(x y:RXX):RXX:=Option.rec (motive:=fun _=>RXX) none (co1 x y) v
def qD(ff:Fr)(c:Ct):Option PV:=Ct.rec (motive:=fun _=>Option PV) (OT ff) some c
def se1(ihb:Fr→SX→RXX)(e:Bt)(ff:Fr)(s:SX):RXX:=Bt.rec (motive:=fun _=>RXX) (ihb ff s) (fun i=>some (.exit i,ff,s)) (some (.ret,ff,s)) e
def bl1(id:Nat)(ff:Fr)(s:SX)(i:Nat):RXX:=Bool.rec (motive:=fun _=>RXX) (some (.exit i,ff,s)) (some (.normal,ff,s)) (Nat.beq i id)
def bl2(id:Nat)(e:Bt)(ff:Fr)(s:SX):RXX:=Bt.rec (motive:=fun _=>RXX) (some (.normal,ff,s)) (bl1 id ff s) (some (.ret,ff,s)) e
def J9(pur:FuncId→Bool)(call:DN)(n:Nat)(c:Dc):Fr→SX→RXX:=
 Dc.rec (motive:=fun _=>Fr→SX→RXX) fin (fun ops=>ul pur call ops)
  (fun _ _ iha ihb ff s=>it3 (se1 ihb) (iha ff s))
  (fun c _ _ iht ihe ff s=>rX (qD ff c) (iht ff s) (ihe ff s))
  (fun id _ ih ff s=>it3 (bl2 id) (ih ff s))
  (fun keep _ ih ff s=>Re ff keep 0 (fun ff=>Rx keep ih n ff s))
  (fun id ff s=>some (.exit id,ff,s))
  (fun ff s=>some (.ret,ff,s))
  (fun ops lo=>lV pur call ops lo) c
def XE(args:List PV):Nat→Fr:=List.rec (motive:=fun _=>Nat→Fr) (fun _=>.nil) (fun a _ ih n=>.cons n (some a) (ih (Nat.succ n))) args
abbrev RV:=Option (PV×SX)
def fi3(s:SX)(x:PV):RV:=some (x,s)
def fi2(s:SX)(vs:List PV):RV:=Option.rec (motive:=fun _=>RV) none (Gu (fi3 s)) (Fu vs)
def qp(fn:Cy)(ff:Fr)(s:SX):RV:=Option.rec (motive:=fun _=>RV) none (fi2 s) (Gt ff.toF fn.results)
def rf1(fn:Cy)(e:Bt)(ff:Fr)(s:SX):RV:=Bt.rec (motive:=fun _=>RV) (qp fn ff s) (fun _=>none) (qp fn ff s) e
def rf2(fn:Cy)(e:Bt)(r:Fr×SX):RV:=Prod.rec (motive:=fun _=>RV) (rf1 fn e) r
def rf3(fn:Cy)(r:RXX):RV:=Option.rec (motive:=fun _=>RV) none (Prod.rec (motive:=fun _=>RV) (rf2 fn)) r
def UQ(pur:FuncId→Bool)(call:DN)(n:Nat)(args:List PV)(s:SX)(fn:Cy):RV:=
 Bool.rec (motive:=fun _=>RV) none (rf3 fn (J9 pur call n fn.code (XE args 0) s)) (and (Nat.beq (Jg args) fn.nargs) (Nat.ble (Jg args) fn.ntmps))
abbrev LZ:=DN→List PV→SX→RV
def cx1(ih:DN)(args:List PV)(s:SX)(g:LZ):RV:=g ih args s
def aI(pur:FuncId→Bool)(prim:FuncId→Option LZ)(tab:FuncId→Option Cy)(n:Nat):DN:=
 Nat.rec (motive:=fun _=>DN) (fun _ _ _=>none) (fun n ih f args s=>Option.rec (motive:=fun _=>RV)
  (Option.rec (motive:=fun _=>RV) none (UQ pur ih n args s) (tab f)) (cx1 ih args s) (prim f)) n
end
end Go.Abs.Y

namespace Go.Abs.Y
open Go.RowKit
set_option linter.unusedVariables false
theorem D6{α:Type}(k:Nat→α)(n:Nat):FD k n=k n:=by cases n<;>rfl
theorem Ue{α:Type}(k:Int→α)(n:Int):YX k n=k n:=by
 cases n with
 |ofNat m=>exact D6 (fun m=>k (Int.ofNat m)) m
 |negSucc m=>exact D6 (fun m=>k (Int.negSucc m)) m
theorem eG{α:Type}(k:PV→α)(v:PV):whV k v=k v:=by cases v<;>rfl
theorem Ef{α:Type}:∀(l:List PV) (k:List PV→α),EC k l=k l
 |[],_=>rfl
 |x::l,k=>by
  show whV (fl2 (fun k=>EC k l) k) x=_
  rw[eG];exact Ef l _
theorem Mw{α β:Type}:∀(l:List β) (k:List β→α),OX k l=k l
 |[],_=>rfl
 |x::l,k=>Mw l (fun r=>k (x::r))
theorem Y2{α:Type}(k:Nat→Nat→α)(x y:Nat):fN2 k x y=k x y:=by
 unfold fN2;rw[D6,D6]
theorem lK{α:Type}(k:Nat→Nat→Nat→Nat→α)(x y z u:Nat):fN4 k x y z u=k x y z u:=by
 unfold fN4;rw[D6,D6,Y2]
theorem FX{α:Type}(k:PV→α)(v:PV):Gu k v=k v:=by
 cases v with
 |bool b=>cases b<;>rfl
 |int kk n=>exact Ue (fun n=>k (.int kk n)) n
 |str s=>exact Mw s _
 |vptr v=>exact eG _ v
 |ref a b=>exact Y2 _ a b
 |slice o z es=>exact Ef es _
 |func f a b=>
  show EC (fun fs=>EC (fun cs=>k (.func f fs cs)) b) a=_
  rw[Ef,Ef]
 |agg cs=>exact Ef cs _
 |tuple vs=>exact Ef vs _
 |arr a b c d e=>exact lK _ a b c d
 |aptr a b c d e=>exact lK _ a b d e
 |arrv g s es=>
  show FD (fun gen=>EC (fun es=>k (.arrv gen s es)) es) g=_
  rw[D6,Ef]
 |aggr cs=>exact Ef cs _
 |mref a=>exact D6 (fun a=>k (.mref a)) a
 |mapo d z ks vs=>
  show OX (fun ks=>EC (fun vs=>k (.mapo d z ks vs)) vs) ks=_
  rw[Mw,Ef]
 |itr a b c=>
  show fN2 (fun mid since=>OX (fun seen=>k (.itr mid since seen)) c) a b=_
  rw[Y2,Mw]
 |_=>rfl
theorem vg(l:List (Option PV)):fR1 l=some l:=by
 have key:∀(l:List (Option PV)) (k:List (Option PV)→Rs),List.rec (motive:=fun _=>(List (Option PV)→Rs)→Rs) (fun k=>k []) (fun x _ ih k=>fR2 ih k x) l k=k l:=by
  intro l
  induction l with
  |nil=>intro k;rfl
  |cons x l ih=>
   intro k;cases x with
   |none=>exact ih (fun r=>k (none::r))
   |some v=>
    show Gu (fR3 _ k) v=_;rw[FX];exact ih (fun r=>k (some v::r))
 exact key l some
theorem EB(r:Rs):BX r=r:=by
 cases r with
 |none=>rfl
 |some l=>exact vg l
theorem ig{α:Type}(x:List PV)(t:Tr)(k:Tr→α):sS0 x t k=k (ZP x t):=by cases t<;>rfl
theorem UL{α:Type}(x:List PV):∀(f:Nat) (t:Tr) (i:Nat) (k:Tr→α),UM x f t i k=k (M3 x f t i)
 |0,t,i,k=>ig x t k
 |f+1,t,0,k=>ig x t k
 |f+1,t,m+1,k=>by
  have ih:=fun(t:Tr) (i:Nat) (k:Tr→α)=>UL x f t i k
  cases t with
  |e=>
   show sS1 (UM x f) m none .e .e k=k (cond (Nat.beq (Nat.mod m 2) 0) (.n none (M3 x f .e (Nat.div m 2)) .e) (.n none .e (M3 x f .e (Nat.div m 2))));unfold sS1;show Bool.rec (motive:=fun _=>α) (UM x f .e (Nat.div m 2) fun t=>k (.n none .e t)) (UM x f .e (Nat.div m 2) fun t=>k (.n none t .e)) (Nat.beq (Nat.mod m 2) 0)=_
   rw[ih,ih];cases Nat.beq (Nat.mod m 2) 0<;>rfl
  |n v l r=>
   show sS1 (UM x f) m v l r k=k (cond (Nat.beq (Nat.mod m 2) 0) (.n v (M3 x f l (Nat.div m 2)) r) (.n v l (M3 x f r (Nat.div m 2))));unfold sS1;show Bool.rec (motive:=fun _=>α) (UM x f r (Nat.div m 2) fun t=>k (.n v l t)) (UM x f l (Nat.div m 2) fun t=>k (.n v t r)) (Nat.beq (Nat.mod m 2) 0)=_
   rw[ih,ih];cases Nat.beq (Nat.mod m 2) 0<;>rfl
theorem ZJ{α:Type}(s:SX)(i:Nat)(x:List PV)(k:SX→α):s.oU i x k=k (s.set i x):=by
 unfold SX.oU;rw[Ef];obtain⟨n,t⟩:=s;show sK1 i k x n t=k (cond (Nat.blt i n) (.mk n (M3 x i t i)) (.mk n t));unfold sK1;rw[UL];cases Nat.blt i n<;>rfl
theorem iL{α:Type}(s:SX)(x:List PV)(k:SX→α):s.iN x k=k (s.push x):=by
 unfold SX.iN;rw[Ef];obtain⟨n,t⟩:=s;show pK1 k x n t=k (.mk (Nat.succ n) (M3 x n t n));unfold pK1;rw[UL,D6]
theorem U2{α:Type}:∀(l:List α) (i:Nat),pU l i=l[i]?
 |[],_=>rfl
 |x::l,0=>rfl
 |x::l,i+1=>(U2 l i).trans (by rw[List.getElem?_cons_succ])
theorem IX{α:Type}:∀l:List α,Jg l=l.length
 |[]=>rfl
 |x::l=>congrArg Nat.succ (IX l)
theorem Rv(k k':IntKind):Nat.beq (Vp k) (Vp k')=decide (k=k'):=by cases k<;>cases k'<;>rfl
theorem YH(v:PV):mvR v=if v.free then some [some v.Ag] else none:=by
 cases v with
 |agg cs=>exact Ef _ _
 |aggr cs=>exact Ef _ _
 |_=>rfl
theorem Xq(f:PV→Rs)(g:List PV→Rs)(h1:∀v,g [v]=f v)(h0:g []=none)(h2:∀a b l,g (a::b::l)=none)(vs:List PV):k1 f vs=g vs:=by
 match vs with
 |[]=>exact h0.symm
 |[v]=>exact(h1 v).symm
 |a::b::l=>exact(h2 a b l).symm
theorem rR(f:PV→PV→Rs)(g:List PV→Rs)(h1:∀v u,g [v,u]=f v u)(h0:g []=none)(h01:∀a,g [a]=none)(h2:∀a b c l,g (a::b::c::l)=none)(vs:List PV):k2 f vs=g vs:=by
 match vs with
 |[]=>exact h0.symm
 |[v]=>exact(h01 v).symm
 |[v,u]=>exact(h1 v u).symm
 |a::b::c::l=>exact(h2 a b c l).symm
theorem xL(f:PV→PV→PV→Rs)(g:List PV→Rs)(h1:∀v u t,g [v,u,t]=f v u t)(h0:g []=none)(h01:∀a,g [a]=none)(h02:∀a b,g [a,b]=none)(h2:∀a b c d l,g (a::b::c::d::l)=none)(vs:List PV):k3 f vs=g vs:=by
 match vs with
 |[]=>exact h0.symm
 |[v]=>exact(h01 v).symm
 |[v,u]=>exact(h02 v u).symm
 |[v,u,t]=>exact(h1 v u t).symm
 |a::b::c::d::l=>exact(h2 a b c d l).symm
theorem iW(c x y:PV):AJ .pick [c,x,y]=iX c x y:=by
 cases c with
 |bool b=>
  show(if(if b then x else y).free then some [some (if b then x else y).Ag] else none)=Bool.rec (mvR y) (mvR x) b
  cases b
  ·exact(YH y).symm
  ·exact(YH x).symm
 |_=>rfl
theorem ve(off n:Nat)(ag:Bool)(x:PV):AJ (.fa off n ag) [x]=faR off n ag x:=by
 cases x with
 |ref i o=>exact(D6 (fun off=>is1 (.ref i off)) (Nat.add o off)).symm
 |_=>exact(EB _).symm
theorem qx(x:PV):AJ .chk [x]=vG x:=by cases x<;>rfl
theorem p8(st:Bool)(x:PV):AJ (.len st) [x]=uU st x:=by
 cases st with
 |true=>cases x with
  |str l=>
   refine Eq.symm ((D6 (fun n=>is1 (.int .i64 (Int.ofNat n))) (Jg l)).trans ?_)
   rw[IX];rfl
  |_=>rfl
 |false=>cases x with
  |slice o z l=>
   refine Eq.symm ((D6 (fun n=>is1 (.int .i64 (Int.ofNat n))) (Jg l)).trans ?_)
   rw[IX];rfl
  |_=>rfl
theorem VR(k:IntKind)(n:Int):VS k n=k.wrap n:=by
 cases n with
 |negSucc m=>rfl
 |ofNat m=>
  show wr1 k m=_;unfold wr1
  have h64:∀m:Nat,m<9223372036854775808→IntKind.i64.wrap (Int.ofNat m)=Int.ofNat m:=fun m h=>by
   show IntKind.i64.wrap (m:Int)=(m:Int);rw[IntKind.wrap_i64];omega
  have h128:∀m:Nat,m<128→k.wrap (Int.ofNat m)=Int.ofNat m:=fun m h=>by
   show k.wrap (m:Int)=(m:Int);cases k<;>simp only[IntKind.wrap,IntKind.bits,IntKind.signed]<;>simp<;>omega
  cases hb:Nat.blt m 128 with
  |true=>exact(h128 m (DK hb)).symm
  |false=>
   show wr2 k m=_;unfold wr2;cases hk:Nat.beq (Vp k) 3 with
   |false=>rfl
   |true=>
    have hk:k=.i64:=by
     have:=Rv k .i64;rw[show Vp .i64=3 from rfl,hk] at this
     exact of_decide_eq_true this.symm
    subst hk;cases h2:Nat.blt m 9223372036854775808 with
    |true=>exact(h64 m (DK h2)).symm
    |false=>rfl
theorem NL(a b:Int):NM a b=decide (a<b):=by
 have hblt:∀m n:Nat,Nat.blt m n=decide (m<n):=fun m n=>by
  by_cases h:m<n
  ·rw[aK h,decide_eq_true h]
  ·rw[aL h,decide_eq_false h]
 cases a with
 |ofNat m=>cases b with
  |ofNat n=>exact(hblt m n).trans (decide_eq_decide.2 (by rw[Co,Co];omega))
  |negSucc n=>exact(decide_eq_false (by rw[Co,DV];omega)).symm
 |negSucc m=>cases b with
  |ofNat n=>exact(decide_eq_true (by rw[Co,DV];omega)).symm
  |negSucc n=>exact(hblt n m).trans (decide_eq_decide.2 (by rw[DV,DV];omega))
theorem XB(a b:Int):XC a b=(a==b):=by
 have hb:∀m n:Nat,Nat.beq m n=decide (m=n):=fun m n=>by
  cases h:Nat.beq m n with
  |true=>exact(decide_eq_true (AU h)).symm
  |false=>exact(decide_eq_false (Du h)).symm
 have he:∀a b:Int,(a==b)=decide (a=b):=fun a b=>by
  by_cases h:a=b<;>simp[h]
 rw[he];cases a with
 |ofNat m=>cases b with
  |ofNat n=>exact(hb m n).trans (decide_eq_decide.2 (by rw[Co,Co];omega))
  |negSucc n=>exact(decide_eq_false (by rw[Co,DV];omega)).symm
 |negSucc m=>cases b with
  |ofNat n=>exact(decide_eq_false (by rw[Co,DV];omega)).symm
  |negSucc n=>exact(hb m n).trans (decide_eq_decide.2 (by rw[DV,DV];omega))
end Go.Abs.Y

namespace Go.Abs.Y
open Go.RowKit
set_option linter.unusedVariables false
theorem rU(k k':IntKind)(r:Int):gi k k' r=if k=k' then some [some (.int k r)] else none:=by
 unfold gi;rw[Ue,Rv];by_cases h:k=k'<;>simp[h,is1]
theorem Uc(k k':IntKind)(r:Bool):gd k k' r=if k=k' then some [some (.bool r)] else none:=by
 unfold gd bT;rw[Rv];by_cases h:k=k'<;>cases r<;>simp[h,is1]
theorem l8(op:BinOp)(c:Nat)(k:IntKind)(a:Int)(k':IntKind)(b:Int):rZ op c k a k' b=AJ (.bin op c) [.int k a,.int k' b]:=by
 have go:∀(x:Option PV),(if k=k' then x else none).map (fun v=>[some v])=if k=k' then x.map (fun v=>[some v]) else none:=fun x=>by split<;>rfl
 cases op with
 |add=>
  show gi k k' (VS k (Int.add a b))=Option.map (fun v=>[some v]) (if k=k' then some (PV.int k (k.wrap (a+b))) else none)
  rw[rU,VR,go];rfl
 |sub=>
  show gi k k' (VS k (Int.sub a b))=Option.map (fun v=>[some v]) (if k=k' then some (PV.int k (k.wrap (a - b))) else none)
  rw[rU,VR,go];rfl
 |eql=>
  show gd k k' (XC a b)=Option.map (fun v=>[some v]) (if k=k' then some (PV.bool (a==b)) else none)
  rw[Uc,XB,go];rfl
 |neq=>
  show gd k k' (not (XC a b))=Option.map (fun v=>[some v]) (if k=k' then some (PV.bool (a != b)) else none)
  rw[Uc,XB,go];rfl
 |lss=>
  show gd k k' (NM a b)=Option.map (fun v=>[some v]) (if k=k' then some (PV.bool (decide (a<b))) else none)
  rw[Uc,NL,go];rfl
 |leq=>
  show gd k k' (not (NM b a))=Option.map (fun v=>[some v]) (if k=k' then some (PV.bool (decide (a≤b))) else none)
  rw[Uc,NL,go,show(!decide (b<a))=decide (a≤b) from by by_cases h:b<a<;>simp[h]<;>omega];rfl
 |gtr=>
  show gd k k' (NM b a)=Option.map (fun v=>[some v]) (if k=k' then some (PV.bool (decide (a>b))) else none)
  rw[Uc,NL,go];rfl
 |geq=>
  show gd k k' (not (NM a b))=Option.map (fun v=>[some v]) (if k=k' then some (PV.bool (decide (a≥b))) else none)
  rw[Uc,NL,go,show(!decide (a<b))=decide (a≥b) from by by_cases h:a<b<;>simp[h]<;>omega];rfl
 |_=>exact EB _
theorem qA(op:BinOp)(c:Nat)(x y:PV):AJ (.bin op c) [x,y]=vP op c x y:=by
 cases x with
 |int k a=>
  show _=bi1 op c y k a;cases y with
  |int k' b=>exact(l8 op c k a k' b).symm
  |_=>exact(EB _).symm
 |_=>exact(EB _).symm
theorem qB(m n:Nat):Nat.beq m n=decide (m=n):=by
 cases h:Nat.beq m n with
 |true=>exact(decide_eq_true (AU h)).symm
 |false=>exact(decide_eq_false (Du h)).symm
theorem AQT(m n:Nat):Nat.blt m n=decide (m<n):=by
 by_cases h:m<n
 ·rw[aK h,decide_eq_true h]
 ·rw[aL h,decide_eq_false h]
theorem qo(size:Nat)(x i:PV):AJ (.idx size) [x,i]=u6 size x i:=by
 cases i with
 |int k n=>
  show _=ix1 size x k n;cases n with
  |negSucc m=>
   show(K7 size x (.int k (Int.negSucc m))).map _=none;have hn:¬(0:Int)≤Int.negSucc m:=by rw[DV];omega
   cases x<;>first | rfl | (simp only[K7,hn,and_false,false_and,if_false];rfl)
  |ofNat m=>
   show(K7 size x (.int k (Int.ofNat m))).map _=ix2 size x m;have hn:(0:Int)≤Int.ofNat m:=by rw[Co];omega
   cases x with
   |slice o sz es=>
    show _=ix3 size m sz es;unfold ix3;rw[qB,U2];simp only[K7,hn,and_true];by_cases h:sz=size
    ·simp only[h,if_true,decide_true];show Option.map _ (es[m]?.map _)=Option.rec (motive:=fun _=>Rs) none ix4 es[m]?
     cases es[m]?<;>rfl
    ·simp only[h,if_false,decide_false];rfl
   |arr id gen off len sz=>
    show _=ix5 size m id gen off len sz;unfold ix5;rw[qB,AQT,D6];simp only[K7,hn,true_and];by_cases h:sz=size
    ·by_cases h2:m<len
     ·have h3:Int.ofNat m<(len:Int):=by rw[Co];omega
      simp only[h,h2,h3,and_self,if_true,decide_true];rfl
     ·have h3:¬Int.ofNat m<(len:Int):=by rw[Co];omega
      simp only[h,h2,h3,and_false,if_false,decide_true,decide_false];rfl
    ·simp only[h,false_and,if_false,decide_false];rfl
   |_=>rfl
 |_=>cases x<;>rfl
theorem gU(k:PK)(vs:List PV):gV k vs=AJ k vs:=by
 cases k with
 |mv=>exact Xq mvR (AJ .mv) (fun v=>(YH v).symm) rfl (fun _ _ _=>rfl) vs
 |pick=>exact xL iX (AJ .pick) iW rfl (fun a=>by cases a<;>rfl) (fun a b=>by cases a<;>rfl) (fun a b c d l=>by cases a<;>rfl) vs
 |fa off n ag=>exact Xq (faR off n ag) (AJ (.fa off n ag)) (ve off n ag) rfl (fun _ _ _=>rfl) vs
 |bin op c=>exact rR (vP op c) (AJ (.bin op c)) (qA op c) rfl (fun _=>rfl) (fun _ _ _ _=>rfl) vs
 |idx size=>exact rR (u6 size) (AJ (.idx size)) (qo size) rfl (fun _=>rfl) (fun _ _ _ _=>rfl) vs
 |chk=>exact Xq vG (AJ .chk) qx rfl (fun _ _ _=>rfl) vs
 |len st=>exact Xq (uU st) (AJ (.len st)) (p8 st) rfl (fun _ _ _=>rfl) vs
 |zi n=>cases vs<;>rfl
 |zl z=>cases vs<;>rfl
 |cvs=>exact EB (AJ .cvs vs)
 |no=>exact EB (AJ .no vs)
 |_=>exact EB (AJ _ vs)
theorem p9(v:PV):qa v=if v.isAgg||v.isSelf then none else some [some v.Ag]:=by cases v<;>rfl
theorem nk(cs:List PV)(off n:Nat)(ag:Bool):sQ off n ag cs=(K9 cs off n ag).map fun v=>[some v.Ag]:=by
 cases ag with
 |true=>
  show su1 cs off n=_;unfold su1
  have hble:Nat.ble (Nat.add off n) (Jg cs)=decide (off+n≤cs.length):=by
   rw[IX];cases h:Nat.ble (Nat.add off n) cs.length with
   |true=>exact(decide_eq_true (DK h)).symm
   |false=>
    refine(decide_eq_false fun h2=>?_).symm
    have h3:Nat.ble (Nat.add off n) cs.length=true:=Nat.ble_eq_true_of_le h2;rw[h3] at h;cases h
  rw[hble];by_cases h:off+n≤cs.length
  ·simp only[K9,h,decide_true,if_true];cases Iu ((cs.drop off).take n) with
   |none=>rfl
   |some v=>exact FX is1 _
  ·simp only[K9,h,decide_false,if_false];rfl
 |false=>
  show Option.rec (motive:=fun _=>Rs) none qa (pU cs off)=_
  rw[U2];simp only[K9];cases cs[off]? with
  |none=>rfl
  |some v=>
   show qa v=Option.map _ (if v.isAgg||v.isSelf then none else some v)
   rw[p9]
   split<;>rfl
theorem uW(n:Nat)(ag:Bool)(s:SX)(x:PV):ldX n ag s x=BR (.ld n ag) [x] s.toL:=by
 cases x with
 |ref id off=>
  show Option.rec (motive:=fun _=>Rs) none (sQ off n ag) (s.get id)=_
  simp only[BR,Hf];cases s.get id with
  |none=>rfl
  |some cs=>exact nk cs off n ag
 |vptr v=>exact EB _
 |aptr id gen sz i off=>
  refine(EB _).trans ?_
  simp only[BR,Hf];rfl
 |_=>rfl
theorem gQ(k:RK)(vs:List PV)(s:SX):gT k vs s=BR k vs s.toL:=by
 cases k with
 |ld n ag=>exact Xq (ldX n ag s) (fun vs=>BR (.ld n ag) vs s.toL) (fun v=>(uW n ag s v).symm) rfl (fun a b l=>by cases a<;>rfl) vs
 |lkM z ok d=>
  refine(EB _).trans ?_
  rcases vs with _ | ⟨a,_ | ⟨b,_ | ⟨c,l⟩⟩⟩
  ·rfl
  ·cases a<;>rfl
  ·cases a with
   |mref id=>(simp only[lkX,BR,Hf];rfl)
   |_=>rfl
  ·cases a<;>rfl
 |lnM=>
  refine(EB _).trans ?_
  rcases vs with _ | ⟨a,_ | ⟨b,l⟩⟩
  ·rfl
  ·cases a with
   |mref id=>(simp only[lnX,BR,Hf];rfl)
   |_=>rfl
  ·cases a<;>rfl
 |enI=>
  refine(EB _).trans ?_
  rcases vs with _ | ⟨a,_ | ⟨b,l⟩⟩
  ·rfl
  ·cases a with
   |ref id o=>cases o with
    |zero=>(simp only[enX,BR,Hf];rfl)
    |succ o=>rfl
   |_=>rfl
  ·cases a with
   |ref id o=>cases o<;>rfl
   |_=>rfl
end Go.Abs.Y

namespace Go.Abs.Y
open Go.RowKit
set_option linter.unusedVariables false
noncomputable def L(x:RsX):Option (List (Option PV)×Sto):=x.map fun p=>(p.1,p.2.toL)
theorem Zm(rs:List (Option PV))(s:SX):L (some (rs,s))=some (rs,s.toL):=rfl
theorem NC(s:SX)(x:List PV)(r:Nat→List (Option PV)):L (Ph s x r)=some (r s.toL.length,s.toL++[x]):=by
 unfold Ph;rw[D6,iL,Zm,VU,mZ]
theorem NA(s:SX)(id:Nat)(x:PV)(r:List (Option PV)):L (Yz s id x r)=some (r,s.toL.set id [x]):=by
 unfold Yz;rw[FX,ZJ,Zm,Zr]
theorem Jb(s:SX)(x:PV)(r:Nat→List (Option PV)):L (MN s x r)=some (r s.toL.length,s.toL++[[x]]):=by
 unfold MN;rw[FX,NC]
theorem ZO(s:SX)(id gen off len size:Nat):pg s id gen off len size=Gs s.toL id gen off len size:=by
 simp only[pg,Gs,Hf];rfl
theorem mF(size:Nat)(s:SX)(v:PV):aP size s v=Jn size s.toL v:=by
 cases v<;>first | rfl | (simp only[aP,Jn,ZO])
theorem mG(size:Nat)(v:PV)(xs:List PV)(s:SX):L (Ut size v xs s)=Fa size v xs s.toL:=by
 cases v with
 |nils=>
  simp only[Ut,Fa];split
  ·rfl
  ·split
   ·rw[Jb]
   ·rfl
 |empt=>
  simp only[Ut,Fa];split
  ·rfl
  ·split
   ·rw[Jb]
   ·rfl
 |arr id gen off len sz=>
  simp only[Ut,Fa,ZO];split
  ·cases Gs s.toL id gen off len size with
   |none=>rfl
   |some es=>
    dsimp only;split
    ·rfl
    ·split
     ·rw[FX,NA]
     ·rfl
  ·rfl
 |_=>rfl
theorem sW(pur:FuncId→Bool)(c:Caller)(n:Nat)(vs:List PV)(s:SX):L (stX n vs s)=Cq pur c (.st n) vs s.toL:=by
 rcases vs with _ | ⟨a,_ | ⟨v,_ | ⟨u,l⟩⟩⟩
 ·rfl
 ·cases a<;>rfl
 ·cases a with
  |ref id off=>
   simp only[stX,Cq,Hf];cases s.get id with
   |none=>rfl
   |some cs=>
    dsimp only;split
    ·rw[ZJ,Zm,Zr]
    ·rfl
  |aptr id gen size i off=>
   simp only[stX,Cq,Hf];cases s.get id with
   |none=>rfl
   |some cs=>
    dsimp only;cases Dq cs gen size with
    |none=>rfl
    |some es=>
     dsimp only;cases es[i]? with
     |none=>rfl
     |some e=>
      dsimp only;split
      ·cases upd e off v.Ag with
       |none=>rfl
       |some e'=>
        dsimp only;rw[FX,NA];rfl
      ·rfl
  |_=>rfl
 ·cases a<;>rfl
theorem sJ(pur:FuncId→Bool)(c:Caller)(d:KD)(vs:List PV)(s:SX):L (upX d vs s)=Cq pur c (.upM d) vs s.toL:=by
 rcases vs with _ | ⟨a,_ | ⟨k,_ | ⟨v,_ | ⟨u,l⟩⟩⟩⟩
 ·rfl
 ·cases a<;>rfl
 ·cases a<;>rfl
 ·cases a with
  |mref id=>
   simp only[upX,Cq,Hf];cases mapOf (s.get id) with
   |none=>rfl
   |some m=>
    obtain⟨d',z',ks,ws⟩:=m;cases MJ d k with
    |none=>rfl
    |some x=>
     dsimp only;split
     ·cases FT x ks with
      |some j=>dsimp only;rw[NA]
      |none=>
       dsimp only;split
       ·rw[NA]
       ·rfl
     ·rfl
  |_=>rfl
 ·cases a<;>rfl
theorem tV(pur:FuncId→Bool)(c:Caller)(vs:List PV)(s:SX):L (rgX vs s)=Cq pur c .rgM vs s.toL:=by
 rcases vs with _ | ⟨a,_ | ⟨k,l⟩⟩
 ·rfl
 ·cases a with
  |mref id=>
   simp only[rgX,Cq,Hf];cases mapOf (s.get id) with
   |none=>rfl
   |some m=>
    obtain⟨d',z',ks,ws⟩:=m;dsimp only;rw[Jb]
  |_=>rfl
 ·cases a<;>rfl
theorem uz(pur:FuncId→Bool)(c:Caller)(vs:List PV)(s:SX):L (nxX vs s)=Cq pur c .nxM vs s.toL:=by
 rcases vs with _ | ⟨a,_ | ⟨k,l⟩⟩
 ·rfl
 ·cases a with
  |ref id o=>cases o with
   |zero=>
    simp only[nxX,Cq,Hf];cases FC (s.get id) with
    |none=>rfl
    |some m=>
     obtain⟨mid,since,seen⟩:=m;dsimp only;cases mapOf (s.get mid) with
     |none=>rfl
     |some m=>
      obtain⟨d',z',ks,ws⟩:=m;dsimp only;split
      ·rcases Fe since seen with _ | ⟨j,_ | ⟨j2,l⟩⟩
       ·rfl
       ·dsimp only;cases ks[j]? with
        |none=>rfl
        |some k=>
         cases ws[j]? with
         |none=>rfl
         |some v=>
          dsimp only;split
          ·rw[FX,NA]
          ·rfl
       ·rfl
      ·rfl
   |succ o=>rfl
  |_=>rfl
 ·cases a with
  |ref id o=>cases o<;>rfl
  |_=>rfl
theorem pW(pur:FuncId→Bool)(c:Caller)(size:Nat)(z:PV)(vs:List PV)(s:SX):L (uB size z vs s)=Cq pur c (.mks size z) vs s.toL:=by
 rcases vs with _ | ⟨a,_ | ⟨b,_ | ⟨u,l⟩⟩⟩
 ·rfl
 ·cases a<;>rfl
 ·cases a with
  |int k n=>cases b with
   |int k' m=>
    simp only[uB,Cq];split
    ·rw[D6,Jb]
    ·rfl
   |_=>rfl
  |_=>rfl
 ·cases a with
  |int k n=>cases b<;>rfl
  |_=>rfl
def CR(cX:DN)(c:Caller):Prop:=∀f vs s r s',cX f vs s=some (r,s')→c f vs s.toL=some (r,s'.toL)
section
variable{pur:FuncId→Bool}{cX:DN}{c:Caller}
theorem Jo:∀vs:List PV,Ie vs=vs.all PV.free
 |[]=>rfl
 |v::vs=>by
  show(v.free&&Ie vs)=_;rw[Jo vs,Bi]
theorem Wz(h:CR cX c){f:FuncId}{s:SX}{vs:List PV}{rs:List (Option PV)}{s':SX}(he:QV cX f s vs=some (rs,s')):s'=s∧((c f vs []).bind fun(r,_)=>if r.flat then some ([some r.Ag],s.toL) else none)=some (rs,s'.toL):=by
 unfold QV at he;cases hc:cX f vs SX.nil with
 |none=>rw[hc] at he;cases he
 |some x=>
  obtain⟨r,s1⟩:=x;rw[hc] at he;have he:ca2 s r s1=some (rs,s'):=he;unfold ca2 at he;cases hf:r.flat with
  |false=>rw[hf] at he;cases he
  |true=>
   rw[hf] at he;have he:Gu (ca3 s) r.Ag=some (rs,s'):=he;rw[FX] at he;cases he;have:=h _ _ _ _ _ hc;rw[UF] at this;rw[this];simp[hf]
theorem ql(h:CR cX c){f:FuncId}{s:SX}{vs:List PV}{rs:List (Option PV)}{s':SX}(he:qm cX f s vs=some (rs,s')):((c f vs s.toL).map fun(r,σ')=>([some r.Ag],σ'))=some (rs,s'.toL):=by
 unfold qm at he;cases hc:cX f vs s with
 |none=>rw[hc] at he;cases he
 |some x=>
  obtain⟨r,s1⟩:=x;rw[hc] at he;have he:Gu (ca3 s1) r.Ag=some (rs,s'):=he;rw[FX] at he;cases he;rw[h _ _ _ _ _ hc];rfl
theorem XX(h:CR cX c){f:FuncId}{vs:List PV}{s:SX}{rs:List (Option PV)}{s':SX}(he:Uo pur cX f vs s=some (rs,s')):
  (pur f=true∧vs.all PV.flat=true∧((c f (vs.map PV.Ag) []).bind fun(r,_)=>if r.flat then some ([some r.Ag],s.toL) else none)=some (rs,s'.toL)) ∨
  (pur f=false∧((c f (vs.map PV.Ag) s.toL).map fun(r,σ')=>([some r.Ag],σ'))=some (rs,s'.toL)):=by
 unfold Uo at he;cases hp:pur f with
 |false=>
  rw[hp] at he;have he:EC (qm cX f s) (vs.map PV.Ag)=some (rs,s'):=he;rw[Ef] at he;exact .inr ⟨rfl,ql h he⟩
 |true=>
  rw[hp] at he;cases hf:vs.all PV.flat with
  |false=>rw[hf] at he;cases he
  |true=>
   rw[hf] at he;have he:EC (QV cX f s) (vs.map PV.Ag)=some (rs,s'):=he;rw[Ef] at he;exact .inl ⟨rfl,rfl,(Wz h he).2⟩
theorem JA{k:WK}(hk:∀vs σ,Cq (fun _=>false) (fun _ _ _=>none) k vs σ=Cq pur c k vs σ){vs:List PV}{s:SX}{rs:List (Option PV)}{s':SX}(he:Vg k vs s=some (rs,s')):Cq pur c k vs s.toL=some (rs,s'.toL):=by
 obtain⟨x,hx,e⟩:=Ac.1 he;cases e;rw[←hk,hx,UE]
theorem Qa{x:RsX}{y:Option (List (Option PV)×Sto)}(h:L x=y){rs:List (Option PV)}{s':SX}(he:x=some (rs,s')):y=some (rs,s'.toL):=by
 rw[←h,he];rfl
theorem gP(h:CR cX c)(k:WK){vs:List PV}{s:SX}{rs:List (Option PV)}{s':SX}(he:qP pur cX k vs s=some (rs,s')):Cq pur c k vs s.toL=some (rs,s'.toL):=by
 cases k with
 |alO z=>cases vs with
  |nil=>exact Qa (NC s z _) he
  |cons=>cases he
 |alB t e=>exact JA (pur:=pur) (c:=c) (fun _ _=>by kernel_rfl) he
 |bxO=>
  rcases vs with _ | ⟨v,_ | ⟨u,l⟩⟩
  ·cases he
  ·have he:(if v.okc then Ph s v.Ag.cells (fun id=>[some (.ref id 0)]) else none)=some (rs,s'):=he
   simp only[Cq]
   split at he
   ·rename_i hc;rw[if_pos hc];exact Qa (NC s _ _) he
   ·cases he
  ·cases he
 |st n=>exact Qa (sW pur c n vs s) he
 |ldo=>exact JA (pur:=pur) (c:=c) (fun _ _=>by kernel_rfl) he
 |sto=>exact JA (pur:=pur) (c:=c) (fun _ _=>by kernel_rfl) he
 |call f=>
  have he:Bool.rec (motive:=fun _=>RsX) none (Uo pur cX f vs s) (Ie vs)=some (rs,s'):=he
  rw[Jo] at he;cases hf:vs.all PV.free with
  |false=>rw[hf] at he;cases he
  |true=>
   rw[hf] at he;simp only[Cq];rw[if_pos hf];rcases XX (pur:=pur) h he with⟨h1,h2,h3⟩ | ⟨h1,h3⟩
   ·rw[if_pos h1,if_pos h2];exact h3
   ·rw[if_neg (by rw[h1];simp)];exact h3
 |calld=>
  rcases vs with _ | ⟨a,l⟩
  ·cases he
  ·have he:Bool.rec (motive:=fun _=>RsX) none (Option.rec (motive:=fun _=>RsX) none (Prod.rec (motive:=fun _=>RsX) (cd3 pur cX l s)) (AzJ a)) (Ie l)=some (rs,s'):=he
   rw[Jo] at he;cases hf:l.all PV.free with
   |false=>rw[hf] at he;cases he
   |true=>
    rw[hf] at he;cases a with
    |func f fs cs=>
     have he:Uo pur cX f (fs++l++cs) s=some (rs,s'):=he;simp only[Cq];rw[if_pos hf];rcases XX (pur:=pur) h he with⟨h1,h2,h3⟩ | ⟨h1,h3⟩
     ·rw[if_pos h1,if_pos (IK h2)];exact h3
     ·rw[if_neg (by rw[h1];simp)];exact h3
    |_=>cases he
 |Fa size=>
  rcases vs with _ | ⟨v,_ | ⟨x,_ | ⟨u,l⟩⟩⟩
  ·cases he
  ·cases he
  ·have he:(match aP size s x with | some xs=>Ut size v xs s | none=>none)=some (rs,s'):=he
   simp only[Cq,←mF]
   split at he
   ·rename_i xs hxs;rw[hxs];exact Qa (mG size v xs s) he
   ·cases he
  ·cases he
 |frz=>exact JA (pur:=pur) (c:=c) (fun _ _=>by kernel_rfl) he
 |mks size z=>exact Qa (pW pur c size z vs s) he
 |appZ size z=>exact JA (pur:=pur) (c:=c) (fun _ _=>by kernel_rfl) he
 |callz f=>
  have he:Bool.rec (motive:=fun _=>RsX) none (czX cX f vs s) (Ie vs)=some (rs,s'):=he
  rw[Jo] at he;cases hf:vs.all PV.free with
  |false=>rw[hf] at he;cases he
  |true=>
   rw[hf] at he;have he:czX cX f vs s=some (rs,s'):=he;unfold czX at he;simp only[Cq];rw[if_pos hf]
   split at he
   ·rename_i r s1 hc;obtain⟨x,hx,e⟩:=Ac.1 he;cases e;rw[h _ _ _ _ _ hc,Dn];dsimp only;rw[hx,UE];rfl
   ·cases he
 |ldz n k=>exact JA (pur:=pur) (c:=c) (fun _ _=>by kernel_rfl) he
 |mkM z d=>cases vs with
  |nil=>exact Qa (Jb s _ _) he
  |cons=>cases he
 |upM d=>exact Qa (sJ pur c d vs s) he
 |enM z d=>exact JA (pur:=pur) (c:=c) (fun _ _=>by kernel_rfl) he
 |esM=>exact JA (pur:=pur) (c:=c) (fun _ _=>by kernel_rfl) he
 |toA=>
  rcases vs with _ | ⟨a,_ | ⟨u,l⟩⟩
  ·cases he
  ·cases a with
   |fresh size n z=>exact Qa (Jb s _ _) he
   |_=>cases he
  ·cases a<;>cases he
 |bsA size=>
  have he:(if vs.isEmpty=false∧vs.all (fun v=>v.cells.length==size&&v.okc&&v.ones) then MN s (.arrv 0 size (vs.map PV.Ag)) (fun id=>[some (.arr id 0 0 vs.length size)]) else none)=some (rs,s'):=he
  simp only[Cq]
  split at he
  ·rename_i hc;have hne:vs≠[]:=by rintro rfl;exact absurd hc.1 (by simp)
   rw[if_pos ⟨hne,hc.2⟩];exact Qa (Jb s _ _) he
  ·cases he
 |rgM=>exact Qa (tV pur c vs s) he
 |nxM=>exact Qa (uz pur c vs s) he
 |stO n=>
  rcases vs with _ | ⟨a,_ | ⟨v,_ | ⟨u,l⟩⟩⟩
  ·cases he
  ·cases a<;>cases he
  ·cases a with
   |hole m=>
    have he:(if m=n∧v.cells.length=n∧v.okc∧v.ones then Ph s v.Ag.cells (fun id=>[some (.ref id 0)]) else none)=some (rs,s'):=he
    simp only[Cq]
    split at he
    ·rename_i hc;rw[if_pos hc];exact Qa (NC s _ _) he
    ·cases he
   |_=>cases he
  ·cases a<;>cases he
theorem jy{s:SX}{r:Rs}{rs:List (Option PV)}{s':SX}(he:onS s r=some (rs,s')):r=some rs∧s'=s:=by
 cases r with
 |none=>cases he
 |some l=>cases he;exact⟨rfl,rfl⟩
theorem oZ(h:CR cX c)(k:AK){vs:List PV}{s:SX}{rs:List (Option PV)}{s':SX}(he:o5 pur cX k vs s=some (rs,s')):sem pur c k vs s.toL=some (rs,s'.toL):=by
 cases k with
 |p k=>
  obtain⟨h1,rfl⟩:=jy (show onS s (gV k vs)=some (rs,s') from he)
  rw[gU] at h1;simp only[sem,h1];rfl
 |r k=>
  obtain⟨h1,rfl⟩:=jy (show onS s (gT k vs s)=some (rs,s') from he)
  rw[gQ] at h1;simp only[sem,h1];rfl
 |w k=>exact gP h k he
 |c f=>
  have he:Bool.rec (motive:=fun _=>RsX) none (Bool.rec (motive:=fun _=>RsX) none (EC (QV cX f s) (vs.map PV.Ag)) (vs.all PV.flat)) (Ie vs)=some (rs,s'):=he
  rw[Jo] at he;simp only[sem];cases hf:vs.all PV.free with
  |false=>rw[hf] at he;cases he
  |true=>
   rw[hf] at he;cases hf2:vs.all PV.flat with
   |false=>rw[hf2] at he;cases he
   |true=>
    rw[hf2] at he;have he:EC (QV cX f s) (vs.map PV.Ag)=some (rs,s'):=he;rw[Ef] at he;exact(Wz h he).2
end
end Go.Abs.Y
