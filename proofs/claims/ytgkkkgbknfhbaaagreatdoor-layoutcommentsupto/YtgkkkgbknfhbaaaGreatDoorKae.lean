/- A part of the proof: A39 A40 A41 A28 A29. -/
import Derived.Test.YtgkkkgbknfhbaaaGreatDoorKab
import Derived.Laws.StructEq
import Derived.ChangeKeysEq
import Derived.Test.YtgkkkgbknfhbaaaGreatDoorKad

set_option linter.all false
namespace Go.Abs
open Go.RowKit
section
variable{P:Program}{pur:FuncId->Bool}{call:Caller}{fi:FI}{cx:Cx}{G:Gh}{a:Act}{w:World}{A A':Frm}{σ F:Sto}
def xS(t:Nat)(ts:List Nat)(ys:List PV):eqL (t::ts) [] ys=none:=rfl
def gJ(t:Nat)(ts:List Nat)(xs:List PV):eqL (t::ts) xs []=none:=by cases xs<;>rfl
def Ku{e:TypeId}{k:Nat}(h:MF P e=some k):P.plainKey e=true:=by
 unfold MF at h;unfold Program.plainKey
 grind
def lN{e:TypeId}{k:Nat}(h:MF P e=some k){x y:PV}{b:Bool}(c:eqC k x y=some b){I:Imm}{v u:Value}(j:Rep I w v x)(i:Rep I w u y)(d:Nat):(Op.equalIn (d+1) e v u).run P w=.ok b w:=by
 unfold MF at h;cases x with
 |int o l=>
  cases y with
  |int n a2=>
   simp only[eqC] at c
   split at c
   ·rename_i f;obtain⟨rfl,rfl⟩:=f;cases c;cases j;cases i
    split at h
    ·rename_i p g;exact run_equalIn_int w d e _ _ _ _ g
    ·cases h
    ·cases h
    ·cases h
   ·cases c
  |_=>simp[eqC] at c
 |bool l=>
  cases y with
  |bool a2=>
   simp only[eqC] at c
   split at c
   ·rename_i f;subst f;cases c;cases j;cases i
    split at h
    ·cases h
    ·rename_i g;exact run_equalIn_bool w d e _ _ g
    ·cases h
    ·cases h
   ·cases c
  |_=>simp[eqC] at c
 |str l=>
  cases y with
  |str a2=>
   simp only[eqC] at c
   split at c
   ·rename_i f;subst f;cases c;cases j with
    |str m=>cases i with
     |str s2=>
      split at h
      ·cases h
      ·cases h
      ·rename_i g;rw[run_equalIn_string w d e _ _ g,Df,Df]
      ·cases h
   ·cases c
  |_=>simp[eqC] at c
 |_=>simp[eqC] at c
def Uj:∀(fs:List Field) (i:Nat) (ts:List Nat),Lx P i fs=some ts->ts.length=fs.length/\∀(j:Nat) (f:Field),fs[j]?=some f->f.name ≠ "_" /\ f.offset=i+j/\∃k,MF P f.type=some k/\ts[j]?=some k
 |[],i,ts,h=>by cases h;grind
 |f::fs,i,ts,h=>by
  rw[Lx] at h
  split at h
  ·rename_i k ks d c
   split at h
   ·let ⟨_,_⟩:=Uj _ _ _ c
    grind
   ·cases h
  ·cases h
def SN(d:Nat){xs ys:List PV}{cx cy:Array Value}{I:Imm}(y:cx.size=xs.length)(z:cy.size=ys.length)(v:∀(i:Nat) (p:PV),xs[i]?=some p->Rep I w (cx.getD i undef) p)(x:∀(i:Nat) (p:PV),ys[i]?=some p->Rep I w (cy.getD i undef) p):
  ∀(fs:List Field) (i:Nat) (ts:List Nat) (b:Bool),Lx P i fs=some ts->eqL ts (xs.drop i) (ys.drop i)=some b->(Op.eqFields (d+1) cx cy fs).run P w=.ok b w
 |[],i,ts,b,g,c=>by
  cases g;cases c;rfl
 |f::fs,i,ts,b,g,c=>by
  rw[Lx] at g
  split at g
  ·rename_i k ks n o
   split at g
   ·rename_i j;cases g;rw[Aj,bne_iff_ne,beq_iff_eq] at j;rcases Be i xs.length with hi | hi
    ·rcases Be i ys.length with h | h
     ·rw[BN hi,BN h,eqL] at c;have s:=v i _ (Af hi);have r:=x i _ (Af h);have u:cx[i]?=some (cx.getD i undef):=by simp_all
      have c2:cy[i]?=some (cy.getD i undef):=by simp_all
      generalize cx.getD i undef=C at s u;generalize cy.getD i undef=D at r c2;have m:=run_part_plain (w:=w) (Ku n) u;have l:=run_part_plain (w:=w) (Ku n) c2;rw[<-j.2] at m l;cases q:eqC k xs[i] ys[i] with
      |none=>grind
      |some B=>
       have t:=lN n q s r d;rw[q] at c;cases B with
       |true=>
        simp[Op.eqFields,j.1,m,l,t,(SN d y z v x fs (i+1) ks b o c)]
       |false=>
        cases c;simp[Op.eqFields,j.1,m,l,t]
     ·rw[Co h,gJ] at c;cases c
    ·rw[Co hi] at c;cases c
   ·cases g
  ·cases g
def O6(d:Nat){e:TypeId}{k:Nat}(h:MF P e=some k){C:TypeInfo}(l:P.info? e=some C)(j:P.cellsOf e=1){xs ys:List PV}{cx cy:Array Value}{I:Imm}(z:cx.size=xs.length)(B:cy.size=ys.length)(r:∀(i:Nat) (p:PV),xs[i]?=some p->Rep I w (cx.getD i undef) p)(q:∀(i:Nat) (p:PV),ys[i]?=some p->Rep I w (cy.getD i undef) p):
  ∀(n i:Nat) (b:Bool),eqL (List.replicate n k) (xs.drop i) (ys.drop i)=some b->(Op.eqItems (d+1) e 1 cx cy (List.range' i n)).run P w=.ok b w
 |0,i,b,c=>by
  cases c;rfl
 |n+1,i,b,c=>by
  rw[List.replicate_succ] at c;rcases Be i xs.length with hi | hi
  ·rcases Be i ys.length with g | g
   ·rw[BN hi,BN g,eqL] at c;have m:=r i _ (Af hi);have u:=q i _ (Af g);have v:cx[i]?=some (cx.getD i undef):=by simp_all
    have c2:cy[i]?=some (cy.getD i undef):=by simp_all
    generalize cx.getD i undef=E at m v;generalize cy.getD i undef=D at u c2;have x:=run_part_plain (w:=w) (Ku h) v;have s:=run_part_plain (w:=w) (Ku h) c2;rw[List.range'_succ];cases o:eqC k xs[i] ys[i] with
    |none=>grind
    |some y=>
     have t:=lN (w:=w) h o m u d;rw[o] at c;cases y with
     |true=>
      simp[Op.eqItems,x,s,t,(O6 d h l j z B r q n (i+1) b c)]
     |false=>
      cases c;simp[Op.eqItems,x,s,t]
   ·rw[Co g,gJ] at c;cases c
  ·rw[Co hi,xS] at c;cases c
def Q4{t:TypeId}{ts:List Nat}(h:Nq P t=some ts){xs ys:List PV}{cx cy:Array Value}{I:Imm}(l:cx.size=xs.length)(m:cy.size=ys.length)(o:∀(i:Nat) (p:PV),xs[i]?=some p->Rep I w (cx.getD i undef) p)(q:∀(i:Nat) (p:PV),ys[i]?=some p->Rep I w (cy.getD i undef) p)
  {b:Bool} (s:eqL ts xs ys=some b):(Op.equalIn 10000 t (.agg cx) (.agg cy)).run P w=.ok b w/\P.eqGuardType P.depth t=false:=by
 unfold Nq at h
 split at h
 ·cases h
 rename_i f;rw[FK,Ea] at f;refine⟨?_,f.2⟩
 split at h
 ·rename_i fs j;have g:P.fieldsOf t=fs:=by simp[Program.fieldsOf,j]
  rw[run_equalIn_struct w _ t cx cy (by grind) f.1,g]
  exact SN _ l m o q _ 0 ts b h (by grind)
 ·rename_i n e j;obtain⟨k,d,rfl⟩:=Ac.1 h
  split at d
  ·rename_i r
   let ⟨_,c⟩:=info_of_underlying (show P.underlying e=some ((P.underlying e).getD default) by
    unfold MF at d
    grind)
   rw[run_equalIn_array w _ _ cy j c,r,List.range_eq_range'];exact O6 _ d c r l m o q n 0 b (by grind)
  ·cases d
 ·cases h
def Xi:∀{cs:List PV} {l:List (IntKind×Int)},JV cs=some l->cs=l.map λx=>PV.int x.1 x.2
 |[],l,h=>by cases h;rfl
 |c::cs,l,h=>by
  cases d:JV cs with
  |none=>simp[JV,d] at h
  |some e=>
   cases c with
   |int k n=>
    simp  [JV,d] at h
    cases h;rw[Xi d];rfl
   |_=>simp[JV] at h
def PE{d:KD}{p:PV}{x:Kx}(h:TP d p=some x){v:Value}{I:Imm}{bl:Bl}(b:BF I bl w v p):v=x.val/\J9 d x=true:=by
 cases d with
 |i k0=>
  cases p with
  |int k n=>
   simp only[TP] at h
   split at h
   ·rename_i e;cases h;subst e;exact⟨b.CJ,by simp[J9]⟩
   ·cases h
  |_=>cases h
 |s=>
  cases p with
  |str l=>
   cases h;obtain⟨s,rfl,rfl⟩:=b.EC;cases s;exact⟨rfl,rfl⟩
  |_=>cases h
 |a ks=>
  cases p with
  |agg cs=>
   simp only[TP] at h
   split at h
   ·rename_i l j
    split at h
    case isFalse=>cases h
    rename_i g;cases h;have e:=Xi j;obtain⟨vs,rfl,c,f⟩:=b.Sc;refine⟨?_,by simp only[J9,beq_iff_eq];exact g⟩
    congr 1;apply Cw.1;refine Ee λi=>?_
    rw[e] at c f;rw[Ap] at c;rcases Be i l.length with hi | hi
    ·have:=f i (.int l[i].1 l[i].2) (by grind)
     rw[Ao,Bp am] at this
     have m:=(BF.one (bl:=Bl.nil) (.inl this)).CJ
     grind
    grind
   ·cases h
  |_=>cases h
def Sa{d:KD}{p:PV}{x:Kx}(h:TP d p=some x):p.free=true:=by
 cases d<;>cases p<;>first | rfl | cases h
def L9:∀{ks:List Kx} {x:Kx} {j:Nat},Ji x ks=some j->ks[j]?=some x
 |[],x,j,h=>by cases h
 |k::ks,x,j,h=>by
  rw[Ji] at h
  split at h
  ·grind
  ·obtain⟨i,hi,rfl⟩:=Ac.1 h;simpa using L9 hi
def gK:∀(l e:List (IntKind×Int)),l.map (·.1)=e.map (·.1)->eqL (List.replicate l.length 0) (l.map λx=>PV.int x.1 x.2) (e.map λx=>PV.int x.1 x.2)=some (decide (e=l))
 |[],[],_=>rfl
 |[],_::_,h=>by grind
 |_::_,[],h=>by grind
 |(k,a)::l,(g,b)::e,h=>by
  simp  [Bu,List.cons.injEq] at h
  let ⟨rfl,h⟩:=h
  have f:=gK l _ h
  simp  [Ah,List.replicate_succ,Bu,eqL,eqC]
  by_cases d:a=b
  ·simp_all
  ·rw[beq_false_of_ne d];simp[Ne.symm d]
def Ui:∀(fs:List Field) (i:Nat) (ts:List Nat) (ks:List IntKind),Lx P i fs=some ts->Z8 P fs=some ks->ts=List.replicate ks.length 0
 |[],i,ts,ks,h,c=>by cases h;cases c;rfl
 |f::fs,i,ts,ks,h,c=>by
  rw[Lx] at h
  split at h
  ·rename_i k us m d
   split at h
   ·cases h;unfold Z8 at c
    split at c
    ·rename_i l j g e;rw[Ui _ _ _ _ d e];have:MF P f.type=some 0:=by unfold MF;rw[g]
     grind
    ·cases c
   ·cases h
  ·cases h
def ah{c:TypeId}{ks:List IntKind}(h:N7 P c=some (.a ks)):∃fs,P.underlying c=some (.struct fs)/\Nq P c=some (List.replicate ks.length 0):=by
 unfold N7 at h
 split at h
 ·cases h
 ·cases h
 ·rename_i fs e
  split at h
  ·rename_i ts f b d;cases h;refine⟨_,e,?_⟩
   rw[b];unfold Nq at b
   split at b
   ·cases b
   rw[e] at b;rw[Ui _ 0 _ _ b d]
  ·cases h
 ·cases h
def fM{b:TypeId}{d:KD}(h:N7 P b=some d):(∃k,d=.i k/\P.underlying b=some (.int k))\/(d=.s/\P.underlying b=some .string)\/∃n,d=.a n:=by
 unfold N7 at h
 grind
def cB{I:Imm}(l:List (IntKind×Int)):∀(i:Nat) (p:PV),(l.map λx=>PV.int x.1 x.2)[i]?=some p->Rep I w ((l.map λx=>Value.int x.1 x.2).toArray.getD i undef) p:=by
 intro i p b;rw[Al] at b;obtain⟨x,c,rfl⟩:=Ac.1 b;rw[Ao,Dz,Al,c];exact .int _ _
def uR{d:TypeId}{n:List IntKind}(h:N7 P d=some (.a n)){l b:List (IntKind×Int)}(f:l.map (·.1)=n)(c:b.map (·.1)=n):(Op.equal d (Kx.a l).val (Kx.a b).val).run P w=.ok (decide (Kx.a b=Kx.a l)) w:=by
 let ⟨_,_,e⟩:=ah h
 have:=(Q4 (w:=w) (I:=λ_ _=>False) e 
  (by simp) (by simp) (cB l) (cB _) (by rw[(by grind: n.length=l.length)];exact gK l _ (f.trans c.symm))).1
 rw[(by simp: decide _=decide (b=l))]
 exact this
def MG(j:Bool)(d:Nat)(cs:Array Value):∀(fs:List Field) (i:Nat) (ts:List Nat),Lx P i fs=some ts->i+fs.length<=cs.size->
  (forIn fs PUnit.unit (λf _=>if f.name ≠ "_" then(do
   let x <- part f.type cs f.offset
   Instr.checkKey j (d+1) f.type x
   pure (ForInStep.yield PUnit.unit)) else pure (ForInStep.yield PUnit.unit)):Sem PUnit).run P w=.ok PUnit.unit w
 |[],i,ts,_,_=>rfl
 |f::fs,i,ts,h,m=>by
  rw[Lx] at h
  split at h
  ·rename_i k ks g l
   split at h
   ·rename_i n;rw[Aj,beq_iff_eq] at n
    simp  [Ah] at m
    have q:=MG j d cs _ _ _ l am
    have p:=run_part_plain (w:=w) (Ku g) (show cs[f.offset]?=some _ from Bp am)
    have o:(Instr.checkKey j (d+1) f.type cs[f.offset]).run P w=.ok () w:=by
     unfold MF at g
     split at g
     ·rename_i e;simp[Instr.checkKey,underlying,e]
     ·rename_i e;simp[Instr.checkKey,underlying,e]
     ·rename_i e;simp[Instr.checkKey,underlying,e]
     ·cases g
    simp_all
   ·cases h
  ·cases h
def K6(j:Bool){f:TypeId}{d:KD}(h:N7 P f=some d){x:Kx}(g:J9 d x=true):(Instr.checkKey j 10000 f x.val).run P w=.ok () w:=by
 rcases fM h with⟨k,rfl,e⟩ | ⟨rfl,e⟩ | ⟨n,rfl⟩
 ·exact run_checkKey e (by simp) _
 ·exact run_checkKey e (.inr rfl) _
 ·let ⟨_,e,c⟩:=ah h
  cases x with
  |a l=>
   simp  [J9,beq_iff_eq] at g
   unfold Nq at c
   split at c
   ·cases c
   rw[e] at c;have i:=(Uj _ 0 _ c).1;show(Instr.checkKey _ _ _ (.agg _)).run P w=_;rw[Instr.checkKey];simp only[Sem.run_bind,run_underlying e,Result.andThen_ok];rw[<-Array.forIn_toList];have m:=MG (w:=w) j 9998 (l.map λx=>Value.int x.1 x.2).toArray _ 0 _ c (by grind)
   simp_all
  |_=>simp[J9] at g
def OP{f:TypeDesc}{d:KD}(r:(∃k,f=.int k/\d=.i k)\/f=.string/\d=.s){x:Kx}(n:J9 d x=true):∀(es:List MapEntry) (ks:List Kx) (s:Nat),es.map (·.key)=ks.map Kx.val->ks.all (J9 d)=true->
  Instr.findNow f x.val es s=some ((Ji x ks).bind λj=>(es[j]?).map λe=>(s+j,e.val))
 |[],[],s,_,_=>rfl
 |[],_::_,s,h,_=>by simp at h
 |_::_,[],s,h,_=>by simp at h
 |e::es,k::ks,s,h,m=>by
  simp only[Bu,List.cons.injEq] at h;simp only[Dv,Aj] at m
  have p:Instr.sameNow f x.val e.key=some (decide (k=x)):=by
   rw[h.1];rcases r with⟨k0,rfl,rfl⟩ | ⟨rfl,rfl⟩
   ·cases x with
    |i t a=>
     cases k with
     |i u b=>
      have q  := by simpa [J9] using n
      have o  := by simpa [J9] using m.1
      subst q;subst o;simp only[Kx.val,Instr.sameNow,if_true];by_cases g:a=b
      ·simp_all
      ·simp[g,Ne.symm g]
     |_=>simp[J9] at m
    |_=>simp[J9] at n
   ·cases x with
    |s a=>
     cases k with
     |s b=>
      simp only[Kx.val,Instr.sameNow,beq_toListBytes,Df];by_cases g:a=b
      ·grind
      ·simp[g,Ne.symm g]
     |_=>simp[J9] at m
    |_=>simp[J9] at n
  rw[Instr.findNow,p,Ji];by_cases l:k=x
  ·simp[l]
  ·rw[if_neg l,decide_eq_false l];rw[(OP r n es ks _ h.2 m.2)];cases Ji x ks with
   |none=>rfl
   |some j=>grind
def Q3{m:TypeId}{n:List IntKind}(h:N7 P m=some (.a n)){l:List (IntKind×Int)}(i:l.map (·.1)=n):∀(es:List MapEntry) (ks:List Kx) (s:Nat),es.map (·.key)=ks.map Kx.val->ks.all (J9 (.a n))=true->
  (Instr.findAsking m (Kx.a l).val es s).run P w=.ok ((Ji (.a l) ks).bind λj=>(es[j]?).map λe=>(s+j,e.val)) w
 |[],[],s,_,_=>rfl
 |[],_::_,s,h,_=>by grind
 |_::_,[],s,h,_=>by grind
 |e::es,k::ks,s,g,f=>by
  simp  [Bu,List.cons.injEq] at g
  simp only[Dv,Aj] at f;cases k with
  |a o=>
   rw[Instr.findAsking,Ji];simp only[Sem.run_bind,g.1,(uR h i (by simpa [J9] using f.1)),Result.andThen_ok]
   by_cases d:Kx.a o=Kx.a l
   ·simp[d]
   ·rw[if_neg d,decide_eq_false d]
    simp  [Bool.false_eq_true,if_false]
    rw[(Q3 h i _ _ _ g.2 f.2)];cases Ji _ _ with
    |none=>rfl
    |some j=>grind
  |_=>simp[J9] at f
def Mk{m:TypeId}{d:KD}(h:N7 P m=some d){x:Kx}(f:J9 d x=true){es:List MapEntry}{ks:List Kx}(g:es.map (·.key)=ks.map Kx.val)(i:ks.all (J9 d)=true):
  (Instr.findKey m x.val es).run P w=.ok ((Ji x ks).bind λj=>(es[j]?).map λe=>(j,e.val)) w:=by
 rcases fM h with⟨k,rfl,c⟩ | ⟨rfl,c⟩ | ⟨n,rfl⟩
 ·simp[Instr.findKey,underlying,c,(OP _ f _ _ 0 g i)]
 ·simp[Instr.findKey,underlying,c,(OP _ f es ks 0 g i)]
 ·let ⟨fs,c,_⟩:=ah h
  cases x with
  |a l=>
   cases es with
   |nil=>
    cases ks with
    |nil=>simp[Instr.findKey,underlying,c,Instr.findNow,Ji]
    |cons _ _=>simp at g
   |cons e es=>
    have o:Instr.findNow (.struct fs) (Kx.a l).val (e::es) 0=none:=rfl;simp[Instr.findKey,underlying,c,o,(Q3 h (by simpa [J9] using f) _ _ 0 g i)]
  |_=>simp[J9] at f
def Wu{x y:PV}(h:XN x y=true):x=y:=by
 cases x<;>cases y<;>simp_all [XN]
def Wt:∀{xs ys:List PV},Qh xs ys=true->xs=ys
 |[],[],_=>rfl
 |[],_::_,h=>by simp[Qh] at h
 |_::_,[],h=>by simp[Qh] at h
 |x::xs,y::ys,h=>by
  simp  [Qh,Aj] at h
  rw[Wu h.1,Wt h.2]
def bB{x y:PV}(h:Wv x y=true):x=y:=by
 unfold Wv at h
 split at h
 ·rw[Wt h]
 ·exact Wu h
def N9(m:Nat):∀l:List (IntKind×Int),(((l.map λx=>Value.int x.1 x.2)).zip (l.map λx=>Value.int x.1 x.2)).all (fun(x,y)=>Instr.sameBits m x y)=true
 |[]=>rfl
 |x::l=>by
  simp  [Bu,List.zip_cons_cons,Dv,N9 m l,Bool.and_true]
  simp[Instr.sameBits]
def MV(x:Kx):(Instr.keyThatStays x.val x.val).run P w=.ok x.val w:=by
 have:Instr.sameBits 10000 x.val x.val=true:=by
  cases x with
  |i k n=>simp[Kx.val,Instr.sameBits]
  |s l=>simp[Kx.val,Instr.sameBits,beq_toListBytes]
  |a l=>
   show Instr.sameBits _ (.agg _) (.agg _)=true;rw[Instr.sameBits];simp only[beq_self_eq_true,Da];exact N9 _ l
 simp[Instr.keyThatStays,this]
end
section
variable{P:Program}{pur:FuncId->Bool}{call:Caller}{fi:FI}{cx:Cx}{G:Gh}{a:Act}{w:World}{A A':Frm}{σ σ':Sto}
def lK(hi:Inv cx G a w A σ)(c:∀t,cx.kd t=fi.kind t)(i:cx.nt=fi.nt){o:Oper}{ne:Bool}{p:BinOp}(h:p=if ne then .neq else .eql){t D:TypeId}{x y:Operand}(m:o.op=.binOp p t x y D){ts:List Nat}(z:Nq P t=some ts)
  {n:List CW} (u:Ar fi [x,y]=some n) (J:BK fi o.dst=true) (d:Cb pur call { dst:=o.dst,k:=.p (.aeq ne ts),args:=n } A σ=some (A',σ')):Gives P cx o a w A' σ':=by
 refine Hz hi c i J d λvs O s g=>?_
 match vs,g with
 |[.agg _,.agg ys],g=>
  obtain⟨b,v,rfl⟩:=Ac.1 g;obtain⟨L,N,M,Q,e,rfl,j,f,F,H⟩:=XH u s;cases e
  let ⟨B,q,I,K⟩:=(Bq hi c j F rfl).Sc
  let ⟨c2,l,E,C⟩:=(Bq hi c f H rfl).Sc
  have⟨r,k⟩:=Q4 z I E K C v;refine⟨_,_,rfl,rfl,?_,.one (.inl (.bool _)),λ_=>trivial⟩
  subst h;cases ne with
  |true=>simp[execOp,m,q,l,run_eqGuard_agg w _ t x y _ _ k,run_neq_struct,r]
  |false=>simp[execOp,m,q,l,run_eqGuard_agg w _ t x y B _ k,run_eql_struct,r]
def Jc{t e:TypeId}{n:Nat}(g:P.underlying t=some (.array n e)){size:Nat}{ag:Bool}(d:Cy P e=some (size,ag)){k:IntKind}{z:Int}(f:0<=z/\z<n)(b off:Nat):
  (Instr.indexAt t (.pointer (some ⟨b,off,none⟩)) (.int k z)).run P w=.ok (.pointer (some ⟨b,off+z.toNat * size,none⟩)) w:=by
 simp[Instr.indexAt,asIntOf,underlying,g,f,(run_sizeOf d),Instr.sureAddr,FM]
def zX(hi:Inv cx G a w A σ)(c:∀t,cx.kd t=fi.kind t)(D:cx.nt=fi.nt){o:Oper}{t e:TypeId}{x i:Operand}(E:o.op=.indexAddr t x i){n:Nat}(J:P.underlying t=some (.array n e)){size:Nat}{ag:Bool}(g:Cy P e=some (size,ag))
  (N:∀p,∀d off,p=PV.lref d off->∀y,Hg fi x=some y->Cc A [y]≠some [p])
  {K:List CW} (Q:Ar fi [x,i]=some K) (R:BK fi o.dst=true) (m:Cb pur call { dst:=o.dst,k:=.p (.ixa n size ag),args:=K } A σ=some (A',σ')):Gives P cx o a w A' σ':=by
 refine Hz hi c D R m λvs O M T=>?_
 obtain⟨p,q,r,rfl,f,rfl⟩:=Qi (V:=ixV n size ag) (k:=.ixa n size ag) (λ_ _=>rfl) rfl (λ_=>rfl) (λ_ _ _ _=>rfl) vs O T
 obtain⟨V,Y,y1,Z,L,rfl,h,F,C,s⟩:=XH Q M;cases L;cases q with
 |int k z=>
  have H:=(Bq hi c F s rfl).CJ;simp only[ixV] at f
  split at f
  case isFalse=>cases f
  rename_i I;cases p with
  |vptr v=>
   obtain⟨b,off,cv,l,B,W,h3⟩:=(Bq hi c h C rfl).Kn;obtain⟨u,S,rfl⟩:=Ac.1 f;have U:=NB S;refine⟨_,.pointer (some ⟨b,off+z.toNat * size,none⟩),rfl,rfl,by simp[execOp,E,l,H,Jc J g I],?_,λ_=>trivial⟩
   refine .one (.inl (.vptr (λj=>cv (z.toNat * size+j)) (λj q s=>?_) (λj q s=>?_) (λj q s=>?_)))
   ·grind
   ·grind
   grind
  |ref id off=>
   obtain⟨b,B,l⟩:=(Bq hi c h C rfl).JB;cases f;exact⟨_,_,rfl,rfl,by simp[execOp,E,l,H,Jc J g I],.one (.inr (.ref B)),λ_=>trivial⟩
  |aptr id gen X i' off=>
   obtain⟨b,base,n',B,l⟩:=(Bq hi c h C rfl).KX;simp only[faV] at f;cases f;exact⟨_,_,rfl,rfl,by simp[execOp,E,l,H,Jc J g I,GM],.one (.inr (.aptr B)),λ_=>trivial⟩
  |lref d off=>grind
  |_=>simp[faV] at f
 |_=>simp[ixV] at f
def zW(hi:Inv cx G a w A σ)(h:∀t,cx.kd t=fi.kind t)(s:cx.nt=fi.nt)(K:∀t,cx.al t=fi.alias t){o:Oper}{t e:TypeId}{d u:Nat}{i:Operand}(L:o.op=.indexAddr t (.tmp d) i)(r:o.dst=some u)
  {n:Nat} (Q:P.underlying t=some (.array n e)) {size:Nat} {ag:Bool} (m:Cy P e=some (size,ag)) (E:cx.kd d=.box) (J:fi.alias u=some d) (O:Dn fi u=true)
  {B:List CW} (N:Ar fi [i]=some B) (f:Cb pur call { dst:=some u,k:=.p (.ixl d n size),args:=.slot d::B } A σ=some (A',σ')):Gives P cx o a w A' σ':=by
 obtain⟨vs,S,C,g,rfl,M⟩:=nT f;obtain⟨y,zs,rfl,I,p⟩:=AX N;cases p;obtain⟨c,H,rfl,R,v⟩:=Av C;obtain⟨q,H,rfl,j,v⟩:=Av v;cases v;cases q with
 |int k z=>
  simp only[AQ] at g
  split at g
  case isFalse=>cases g
  rename_i p;obtain⟨F,_⟩:=DW C;obtain⟨b,D,x⟩:=(DV E).1 (hi.slot d c F);rw[M _ (Option.some.inj g).symm];have l:a.eval (.tmp d)=.pointer _:=D;refine .inl ⟨.pointer (some ⟨b,z.toNat * size,none⟩),w,?_,G,?_⟩
  ·simp[execOp,L,l,((Bq hi h I j rfl).CJ),(Jc (P:=P) (w:=w) Q m (k:=k) p b 0)]
  ·rw[r];exact hi.ZJ (FU h s O) E (by grind) D
 |_=>simp[AQ] at g
def uB(hi:Inv cx G a w A σ)(j:∀t,cx.kd t=fi.kind t)(m:cx.nt=fi.nt)(K:∀t,cx.al t=fi.alias t){o:Oper}{t e:TypeId}{s d u:Nat}{i:Operand}(S:o.op=.indexAddr t (.tmp s) i)(x:o.dst=some u)
  {n:Nat} (N:P.underlying t=some (.array n e)) {size:Nat} {ag:Bool} (C:Cy P e=some (size,ag))
  (J:fi.alias s=some d) (O:fi.alias u=some d) (V:Dn fi u=true) {off:Nat} {F:Nat} (f:A.get s=some (.lref F off))
  {H:List CW} (R:Ar fi [i]=some H) (g:Cb pur call { dst:=some u,k:=.p (.ixa n size ag),args:=.slot s::H } A σ=some (A',σ')):Gives P cx o a w A' σ':=by
 obtain⟨vs,X,I,h,rfl,T⟩:=nT g;obtain⟨y,zs,rfl,Q,p⟩:=AX R;cases p;obtain⟨c,U,rfl,W,B⟩:=Av I;obtain⟨q,U,rfl,l,B⟩:=Av B;cases B;obtain⟨E,_⟩:=DW I;rw[f] at E;cases E;cases q with
 |int k z=>
  simp only[AQ,ixV] at h
  split at h
  case isFalse=>cases h
  rename_i p;rw[T _ (Option.some.inj h).symm]
  have r:F=d:=by
   have:=(NL hi f).2.1
   grind
  subst r;obtain⟨L,b,M,v⟩:=LX hi f;have D:a.eval (.tmp s)=.pointer _:=v;refine .inl ⟨.pointer (some ⟨b,off+z.toNat * size,none⟩),w,?_,G,?_⟩
  ·simp[execOp,S,D,((Bq hi j Q l rfl).CJ),Jc (P:=P) (w:=w) N C (k:=k) p b off]
  ·rw[x];exact hi.ZJ (FU j m V) L (by grind) M
 |_=>simp[AQ,ixV] at h
def Pw(hi:Inv cx G a w A σ){id:Nat}{d:KD}{z:PV}{ks:List Kx}{vs:List PV}(h:mapOf σ[id]?=some (d,z,ks,vs)):id<σ.length/\∃b,G.bl.l[id]?=some b/\Ot G w b id d ks vs:=by
 unfold mapOf at h
 split at h
 ·rename_i k j g i f
  let ⟨b,_,c⟩:=hi.obj _ _ f
  rcases c with c | ⟨t,e,l,h,_⟩ | h | ⟨_,_,_,h,_⟩ | ⟨k,j,g,i,h,c⟩
  ·let ⟨_,_,_,_,_,_,h⟩:=c
   rcases h 0 _ rfl with⟨h,_⟩ | ⟨h,_⟩
   ·exact absurd h.free (by simp[PV.free])
   ·cases h
  ·cases h
  ·cases h
  ·cases h
  grind
 ·cases h
def Ot.keys{ks:List Kx}{vs:List PV}{es:Array MapEntry}(b:es.size=ks.length)(h:∀(j:Nat) (e:MapEntry),es[j]?=some e->e.born=j/\(ks[j]?).map Kx.val=some e.key/\∀p,vs[j]?=some p->BF G.I G.bl w e.val p):es.toList.map (·.key)=ks.map Kx.val:=by
 refine Ee λi=>?_
 grind
def uL(w:World)(r:Nat)(o:Obj):World:={ w with heap:=w.heap.setIfInBounds r o }
def bQ(w:World)(r:Nat)(o:Obj):Iw r w (uL w r o):=
 ⟨λk b=>by show(w.heap.setIfInBounds r o)[k]?=_;grind,by simp[uL],rfl,rfl,rfl⟩
def AqG{r:Nat}{o b:Obj}(h:w.heap[r]?=some b):(uL w r o).heap[r]?=some o:=by
 show(w.heap.setIfInBounds r o)[r]?=_;grind
def Nh(hi:Inv cx G a w A σ){id b:Nat}{d:KD}{ks:List Kx}{vs:List PV}(z:PV)(s:G.bl.l[id]?=some b)(u:Ot G w b id d ks vs)(r:id<σ.length){es':Array MapEntry}{f:List Kx}{g:List PV}(k:f.all (J9 d)=true)(v:g.length=f.length)(x:es'.size=f.length)
  (h:∀(j:Nat) (e:MapEntry),es'[j]?=some e->e.born=j/\(f[j]?).map Kx.val=some e.key/\∀p,g[j]?=some p->BF G.I G.bl w e.val p):Inv cx G a (uL w b (.map es' es'.size)) A (σ.set id [.mapo d z f g]):=by
 let ⟨i,q,_,es,m,_,_⟩:=u
 have l:=bQ w b (.map es' es'.size);have c:=QM l i q rfl
 exact hi.Pq none undef (by simp) r
  ⟨b,s,.inr (.inr (.inr (.inr ⟨d,z,_,_,rfl,i,q,⟨v,k⟩,es',AqG m,x,λj e o=>⟨(h j e o).1,(h j e o).2.1,λp n=>((h j e o).2.2 p n).mono c.I c.same c.bl⟩⟩)))⟩
  c (UL hi.base l i q) rfl (by simp) (by simp) rfl (λt p n=>.inl ⟨λh=>h,by simp,n⟩)
def bC{e:TypeId}{z:PV}(c:F4 P e=some z)(I:Imm):∃d,(∀u:World,(zeroValue e).run P u=.ok d u)/\(∀u:World,Rep I u d z)/\z.free=true:=by
 unfold F4 at c
 split at c
 ·rename_i h f
  let ⟨d,g,b⟩:=AB.1 c
  exact⟨_,λu=>by simp[zeroValue,typeInfo,f,g],λu=>Gv b,OO b⟩
 ·cases c
def RV{ao:AOp}{d:Option Nat}{p:PV}(h:ao.dst=d)(c:ao.ex=[])(b:ao.clr=[])(f:([some p]:List (Option PV)).length=ao.dst.toList.length+ao.ex.length->A'=Dw A ao.wr ([some p]++ao.clr.map λ_=>none))
  (g:([some p]:List (Option PV)).length≠ao.dst.toList.length+ao.ex.length->A'=A/\ao.dst=none):A'=JJ A d p:=by
 subst h;cases e:ao.dst with
 |none=>exact(g (by grind)).1
 |some t=>
  rw[f (by grind)]
  simp[AOp.wr,e,c,b,Dw,JJ]
def zP(hi:Inv cx G a w A σ)(D:∀t,cx.kd t=fi.kind t)(u:cx.nt=fi.nt){o:Oper}{t:TypeId}(L:o.op=.makeMap t none){d:Nat}(r:o.dst=some d)(N:Dn fi d=true){z:PV}{kd:KD}
  (k:Cb pur call { dst:=some d,k:=.w (.mkM z kd),args:=[] } A σ=some (A',σ')):Gives P cx o a w A' σ':=by
 obtain⟨vs,Q,J,F,O,_⟩:=KA k;cases J;simp only[sem,Fj] at F;cases F;rw[O rfl];obtain⟨C,f⟩:=FU D u N;refine .inl ⟨.map (some w.heap.size),w.alloc (.map #[] 0),by simp[execOp,L,Instr.makeMap],?_⟩
 rw[r]
 let K:=G.MM w.heap.size (λ_=>False) (some (.obj σ.length none))
 let G':Gh:={ K with bl:=⟨G.bl.l++[w.heap.size],G.bl.ab⟩ }
 have b:=Gb (λ_=>False) hi.base (.map #[] 0) (λ_=>False) (some (.obj σ.length none))
 have p:=FD hi.base (.map #[] 0) (λ_=>False) (some (.obj σ.length none))
 have i:G'.bl.l[σ.length]?=some w.heap.size:=by
  show(G.bl.l++[w.heap.size])[σ.length]?=_;rw[<-hi.len];simp
 refine⟨G',hi.step _ (some d) _ (⟨b.I,b.same,⟨DY _ _,λ_ _ _ h=>h⟩,λ_ _ _ _=>rfl,b.fix⟩) ({ p with bl:=hi.base.bl.trans ⟨DY _ _,λ_ _ _ h=>h⟩ }) (by simp[Dw,AOp.wr]) ?_ ?_ ?_ (λid g x h=>by have:=hi.abl id g x h;simp;omega)⟩
 ·intro s q l;simp only[AOp.wr,Option.toList,CK,Az,Bg,Bn,Dw] at l;rw[Dp] at l
  split at l
  ·rename_i c;cases l;refine .inr ?_
   rw[c.1,Ch f rfl,Gc _ _ _ (by rw[hi.size];exact C)]
   exact⟨.one (.inr (.mref i)),trivial⟩
  ·rename_i c;refine .inl ⟨l,λe=>(λe=>c ⟨e,by have:=hi.room;omega⟩) (Option.some.inj e).symm,λj h=>h,λR off e n B=>?_,λm M=>⟨λe=>?_,λh=>h⟩⟩
   ·cases B;rw[n] at f;simp[SK.val] at f
   ·cases e;obtain⟨E,v⟩:=cx.ents s d M;rw[v] at f;simp[SK.val] at f
 ·intro id H c;by_cases I:id<σ.length
  ·grind
  ·have:id=σ.length:=by grind
   subst this;simp at c;subst c;refine .inr ⟨w.heap.size,i,.inr (.inr (.inr (.inr ⟨kd,z.Ag,[],[],rfl,if_pos rfl,?_,⟨rfl,rfl⟩,#[],heap_alloc_new' _ _,rfl,λj e h=>by simp at h⟩)))⟩
   rintro x (h | ⟨_,h⟩)
   ·have:=hi.base.lt _ _ h;omega
   ·exact h
 ·show(G.bl.l++[w.heap.size]).length=_;simp[hi.len]
def zS(hi:Inv cx G a w A σ)(g:∀t,cx.kd t=fi.kind t)(k:cx.nt=fi.nt){o:Oper}{c:Call}(J:o.op=.call c)(N:c.callee=.builtin .len){H M:TypeId}(u:c.argTypes.toList.map P.underlying=[some (.map H M)])
  {I:List CW} (L:Ar fi c.args.toList=some I) (O:BK fi o.dst=true) (m:Cb pur call { dst:=o.dst,k:=.r .lnM,args:=I } A σ=some (A',σ')):Gives P cx o a w A' σ':=by
 obtain⟨vs,X,K,S,q,s⟩:=KA m;obtain⟨Q,d,e⟩:=Ac.1 S;cases e
 obtain⟨t,i,l⟩:∃t,c.argTypes=#[t]/\P.underlying t=some (.map H M):=by
  cases h:c.argTypes.toList with
  |nil=>rw[h] at u;simp at u
  |cons t r=>cases r with
   |nil=>grind
   |cons _ _=>rw[h] at u;simp at u
 match vs,d with
 |[.mref id],d=>
  simp only[Dq] at d
  split at d
  ·rename_i W U ks V R;cases d;obtain⟨x,y,j,rfl,E,z⟩:=ic L K;obtain⟨T,b,D,C⟩:=Pw hi R;obtain⟨Y,p,v⟩:=(Bq hi g E z rfl).KM;rw[D] at p;cases p;obtain⟨_,_,_,es,F,B,_⟩:=C;rw[RV rfl rfl rfl q s];refine .inl ⟨.int .i64 ks.length,w,?_,G,hi.M9 (Ext.refl _ _ _) hi.base rfl o.dst (Eg g k O) rfl (.one (.inl (.int _ _))) (λ_ _=>trivial)⟩
   obtain⟨f,n⟩:=F5 (P:=P) (w:=w) (a:=a) J N;rw[(Cw.1 j),i] at n;rw[n];simp[builtin,v,Builtin.len_,underlying,l,(by simp[getObj,Sem.run,F]: (getObj b).run P w=.ok (.map es es.size) w),B,goInt]
  ·cases d
 |[.nilm],d=>
  simp only[Dq] at d;cases d;obtain⟨x,y,j,rfl,E,z⟩:=ic L K;have v:=(Bq hi g E z rfl).TE;rw[RV (ao:={ dst:=o.dst,k:=.r .lnM,args:=_ }) rfl rfl rfl q s];refine .inl ⟨.int .i64 0,w,?_,G,hi.M9 (Ext.refl _ _ _) hi.base rfl o.dst (Eg g k O) rfl (.one (.inl (.int _ _))) (λ_ _=>trivial)⟩
  obtain⟨f,n⟩:=F5 (P:=P) (w:=w) (a:=a) J N;rw[(Cw.1 j),i] at n;rw[n];simp[builtin,v,Builtin.len_,underlying,l,goInt]
end
section
variable{P:Program}{pur:FuncId->Bool}{call:Caller}{fi:FI}{cx:Cx}{G:Gh}{a:Act}{w:World}{A A':Frm}{σ σ':Sto}
def Mj{b:Nat}{es:Array MapEntry}{c:Nat}(h:w.heap[b]?=some (.map es c)):(getObj b).run P w=.ok (.map es c) w:=by simp[getObj,Sem.run,h]
def lZ{I:Imm}{bl:Bl}{c:Value}{v:PV}(d:BF I bl w c v)(b:(v.flat||v.Fz)=true):JZ I bl w c v.Ag:=by
 rw[Dk] at b;rcases b with b | b
 ·exact .inl (d.flat b).Ag
 ·have e:v.Ag=v:=by cases v<;>first | rfl | cases b
  rw[e];cases d with
  |one h=>exact h
  |func=>cases b
  |tuple=>cases b
  |aggr=>cases b
def jN(hi:Inv cx G a w A σ)(g:∀t,cx.kd t=fi.kind t)(f:cx.nt=fi.nt){o:Oper}{ok:Bool}{v:PV}{b:Bool}{k:List (Option PV)}(h:lkR ok v b=some k){c:Value}(l:BF G.I G.bl w c v)(m:v.free=true)(j:BK fi o.dst=true)
  (d:(execOp a.eval o).run P w=.ok (.value (if ok then .tuple #[c,.bool b] else c)) w) (q:∀p,k=[some p]->A'=JJ A o.dst p):Gives P cx o a w A' σ:=by
 unfold lkR at h;cases ok with
 |true=>
  rw[if_pos rfl] at h
  split at h
  case isFalse=>cases h
  rename_i r;cases h;rw[q _ rfl];refine .inl ⟨_,w,d,G,hi.M9 (Ext.refl _ _ _) hi.base rfl o.dst (Eg g f j) rfl (.tuple rfl λi p e=>?_) (λ_ _=>trivial)⟩
  match i with
  |0=>
   simp at e;subst e;exact lZ l r
  |1=>simp at e;subst e;exact .inl (.bool b)
  |n+2=>simp at e
 |false=>
  rw[if_pos m] at h;cases h;rw[q _ rfl];exact .inl ⟨_,w,d,G,hi.M9 (Ext.refl _ _ _) hi.base rfl _ (Eg g f j) (by rw[Di];exact m) l.Ag (λ_ _=>Ct _)⟩
def zT(hi:Inv cx G a w A σ)(h:∀t,cx.kd t=fi.kind t)(H:cx.nt=fi.nt){o:Oper}{t K et:TypeId}{x y:Operand}{ok:Bool}(ho:o.op=.lookup t x y ok)(ht:P.underlying t=some (.map K et))
  {d:KD} (r:N7 P K=some d) {z:PV} (hz:F4 P et=some z)
  {az:List CW} (hc:Ar fi [x,y]=some az) (U:BK fi o.dst=true) (M:Cb pur call { dst:=o.dst,k:=.r (.lkM z ok d),args:=az } A σ=some (A',σ')):Gives P cx o a w A' σ':=by
 obtain⟨vs,rs,he,hs,hA1,X⟩:=KA M;simp only[sem] at hs;obtain⟨rs',c,e⟩:=Ac.1 hs;cases e;clear hs;obtain⟨zv,l,m,i⟩:=bC hz G.I
 have T:∀p,rs=[some p]->A'=JJ A o.dst p:=λp e=>by
  subst e;exact RV rfl rfl rfl hA1 X
 match vs,c with
 |[.mref id,k],c=>
  simp only[Dq] at c
  split at c
  ·rename_i d' z' ks N F hm J
   split at c
   case isFalse=>cases c
   rename_i hcc;obtain⟨rfl,hzs⟩:=hcc;obtain rfl:=bB hzs;obtain⟨x',x2,y1,y2,V,rfl,I,E,Z,hq⟩:=XH hc he;cases V;obtain⟨hid,b,W,Y⟩:=Pw hi hm;obtain⟨b',O,R⟩:=(Bq hi h I Z rfl).KM;rw[W] at O;cases O;obtain⟨S,n⟩:=PE J (Bq hi h E hq (Sa J));obtain⟨_,_,⟨hlen,L⟩,es,hes,hsz,u⟩:=Y;have B:=Ot.keys hsz u;have s:=Mj (P:=P) hes;have q:=K6 (P:=P) (w:=w) es.isEmpty r n;have C:=Mk (P:=P) (w:=w) r n B L;cases Q:Ji F ks with
   |some j=>
    have hjk:=L9 Q;have hjl:=(Ad.1 hjk).1;have hv:N[j]?=some N[j]:=Af am
    have D:Lc F ks N=some N[j]:=by unfold Lc;rw[Q];exact hv
    rw[D] at c;have v:=(u j _ (Bp am)).2.2 _ hv
    refine jN hi h H c v v.free U ?_ T
    have g:(Instr.findKey K F.val es.toList).run P w=.ok (some (j,es[j].val)) w:=by grind
    simp[execOp,ho,Instr.lookup,underlying,ht,R,S,s,q,g]
   |none=>
    have D:Lc F ks N=none:=by unfold Lc;rw[Q];rfl
    rw[D] at c;refine jN hi h H c (.one (.inl (m w))) i U ?_ T
    have g:(Instr.findKey K F.val es.toList).run P w=.ok none w:=by
     rw[C,Q];rfl
    simp[execOp,ho,Instr.lookup,underlying,ht,R,S,s,q,g,l]
  ·cases c
 |[.nilm,k],c=>
  simp only[Dq] at c
  split at c
  ·rename_i F J;obtain⟨x',x2,y1,y2,V,rfl,I,E,Z,hq⟩:=XH hc he;cases V;have R:=(Bq hi h I Z rfl).TE;obtain⟨S,n⟩:=PE J (Bq hi h E hq (Sa J));have q:=K6 (P:=P) (w:=w) true r n;have C:=Mk (P:=P) (w:=w) r n (es:=[]) (ks:=[]) rfl rfl;refine jN hi h H c (.one (.inl (m w))) i U ?_ T
   have g:(Instr.findKey K F.val []).run P w=.ok none w:=by rw[C];rfl
   simp[execOp,ho,Instr.lookup,underlying,ht,R,S,q,g,l]
  ·cases c
def Uu{ks:List Kx}{vs:List PV}{es:Array MapEntry}(c:es.size=ks.length)(b:vs.length=ks.length)(d:∀(j:Nat) (e:MapEntry),es[j]?=some e->e.born=j/\(ks[j]?).map Kx.val=some e.key/\∀p,vs[j]?=some p->BF G.I G.bl w e.val p)
  {j:Nat} (k:j<ks.length) {f:MapEntry->MapEntry} {v:PV} (h:∀e,es[j]?=some e->(f e).born=e.born/\(f e).key=e.key/\BF G.I G.bl w (f e).val v) :
  (vs.set j v).length=ks.length/\(es.modify j f).size=ks.length/\∀(i:Nat) (e:MapEntry),(es.modify j f)[i]?=some e->e.born=i/\(ks[i]?).map Kx.val=some e.key/\∀p,(vs.set j v)[i]?=some p->BF G.I G.bl w e.val p:=by
 refine⟨by simp[b],by simp[c],λi e g=>?_⟩
 rw[Dh] at g
 grind
def Xx{ks:List Kx}{vs:List PV}{es:Array MapEntry}(f:es.size=ks.length)(d:vs.length=ks.length)(b:∀(j:Nat) (e:MapEntry),es[j]?=some e->e.born=j/\(ks[j]?).map Kx.val=some e.key/\∀p,vs[j]?=some p->BF G.I G.bl w e.val p)
  (x:Kx) {v:PV} {c:Value} (g:BF G.I G.bl w c v) :
  (vs++[v]).length=(ks++[x]).length/\(es.push { key:=x.val,val:=c,born:=es.size }).size=(ks++[x]).length/\
   ∀(i:Nat) (e:MapEntry),(es.push { key:=x.val,val:=c,born:=es.size })[i]?=some e->e.born=i/\((ks++[x])[i]?).map Kx.val=some e.key/\∀p,(vs++[v])[i]?=some p->BF G.I G.bl w e.val p:=by grind
def Kv{b:Nat}{es es':Array MapEntry}{c c':Nat}(h:w.heap[b]?=some (.map es c)):(setObj b (.map es' c')).run P w=.ok () (uL w b (.map es' c')):=MapKept.run_setObj_map _ h
def lv(hi:Inv cx G a w A σ)(H:∀t,cx.kd t=fi.kind t){o:Oper}{t kt et:TypeId}{m x y:Operand}(q:o.op=.mapUpdate t m x y\/o.op=.insert t m x y)(L:o.dst=none)(Y:P.underlying t=some (.map kt et))
  {d:KD} (U:N7 P kt=some d)
  {az:List CW} (hc:Ar fi [m,x,y]=some az) (S:Cb pur call { dst:=none,k:=.w (.upM d),args:=az } A σ=some (A',σ')):Gives P cx o a w A' σ':=by
 obtain⟨vs,rs,he,i,K,hA2⟩:=KA S;simp only[sem] at i;obtain⟨y1,zs,rfl,hy1,k⟩:=AX hc;obtain⟨y2,zs,rfl,hy2,k⟩:=AX k;obtain⟨y3,zs,rfl,hy3,k⟩:=AX k;cases k;obtain⟨p1,qs,rfl,hp1,O⟩:=Av he;obtain⟨p2,qs,rfl,hp2,O⟩:=Av O;obtain⟨p3,qs,rfl,hp3,O⟩:=Av O;cases O;cases p1 with
 |mref id=>
  simp only[Fj] at i
  split at i
  ·rename_i d' z' ks ws h hm hk
   split at i
   case isFalse=>cases i
   rename_i hcc;obtain⟨rfl,hvf⟩:=hcc;obtain⟨W,b,z,Q⟩:=Pw hi hm;obtain⟨b',R,X⟩:=(Bq hi H hy1 hp1 rfl).KM;rw[z] at R;cases R;obtain⟨Z,J⟩:=PE hk (Bq hi H hy2 hp2 (Sa hk));have T:=(Bq hi H hy3 hp3 hvf).Ag;have s:=Q;obtain⟨_,_,⟨v,p⟩,es,D,I,n⟩:=Q;have E:=Ot.keys I n;have g:=Mj (P:=P) D;have r:=K6 (P:=P) (w:=w) false U J;have N:=Mk (P:=P) (w:=w) U J E p
   split at i
   ·rename_i j hj;cases i;rw[K rfl];have hjk:=L9 hj;have hjl:=(Ad.1 hjk).1;have F:es[j]?=some es[j]:=Bp am
    have V:es[j].key=h.val:=by grind
    have B:=p;obtain⟨g1,g2,g3⟩:=Uu I v n hjl (f:=λe=>{ e with key:=h.val,val:=a.eval y }) (v:=p3.Ag) (λe he=>⟨rfl,by rw[F] at he;cases he;exact V.symm,T⟩)
    have C:=Nh hi z' z s W B g1 g2 g3;refine .inr ⟨_,?_,⟨G,by rw[L];exact C⟩⟩
    have u:(Instr.keyThatStays (((es[j]?).map (·.key)).getD h.val) h.val).run P w=.ok h.val w:=by
     rw[F];simp only[AJ,ES,V];exact MV h
    have f:(Instr.findKey kt h.val es.toList).run P w=.ok (some (j,es[j].val)) w:=by
     rw[N,hj];simp[F]
    have l:=Kv (P:=P) (es':=es.modify j λe=>{ e with key:=h.val,val:=a.eval y }) (c':=es.size) D
    have M:(es.modify j λe=>{ e with key:=h.val,val:=a.eval y }).size=es.size:=by simp
    rcases q with q | q
    ·simp only[execOp,q,X,Z,Instr.mapUpdate,Sem.run_bind,run_underlying Y,Result.andThen_ok,g,r,f,u,l,M];rfl
    ·simp only[execOp,q,X,Z,Instr.mapUpdate,Sem.run_bind,run_underlying Y,Result.andThen_ok,g,r,f,u,l,M];rfl
   ·rename_i hj
    split at i
    case isFalse=>cases i
    cases i;rw[K rfl];obtain⟨g1,g2,g3⟩:=Xx I v n h T;have C:=Nh hi z' z s W (by simp[Ga,p,J]) g1 g2 g3
    refine .inr ⟨_,?_,⟨G,by rw[L];exact C⟩⟩
    have f:(Instr.findKey kt h.val es.toList).run P w=.ok none w:=by rw[N,hj];rfl
    have l:=Kv (P:=P) (es':=es.push { key:=h.val,val:=a.eval y,born:=es.size }) (c':=es.size+1) D;have M:(es.push { key:=h.val,val:=a.eval y,born:=es.size }).size=es.size+1:=by simp
    rcases q with q | q
    ·simp only[execOp,q,X,Z,Instr.mapUpdate,Sem.run_bind,run_underlying Y,Result.andThen_ok,g,r,f,l,M];rfl
    ·simp only[execOp,q,X,Z,Instr.mapUpdate,Sem.run_bind,run_underlying Y,Result.andThen_ok,g,r,f,l,M];rfl
  ·cases i
 |_=>simp[Fj] at i
def Aq3(hi:Inv cx G a w A σ)(H:∀t,cx.kd t=fi.kind t)(Z:cx.nt=fi.nt){o:Oper}{t kt et:TypeId}{m x:Operand}(ho:o.op=.mapEntry t m x)(ht:P.underlying t=some (.map kt et))
  {d:KD} (hkt:N7 P kt=some d) {z:PV} (hz:F4 P et=some z)
  {az:List CW} (hc:Ar fi [m,x]=some az) (hd:BK fi o.dst=true) (hrun:Cb pur call { dst:=o.dst,k:=.w (.enM z d),args:=az } A σ=some (A',σ')):Gives P cx o a w A' σ':=by
 obtain⟨vs,rs,U,f,hA1,hA2⟩:=KA hrun;simp only[sem] at f;obtain⟨zv,O,u,hzfree⟩:=bC hz G.I
 have hA:∀p,rs=[some p]->A'=JJ A o.dst p:=λp e=>by
  subst e;exact RV (ao:={ dst:=o.dst,k:=.w (.enM z d),args:=az }) rfl rfl rfl hA1 hA2
 match vs,f with
 |[.mref id,k],f=>
  simp only[Fj] at f
  split at f
  ·rename_i d' z' ks ws g hm hk
   split at f
   case isFalse=>cases f
   rename_i hcc;obtain⟨rfl,hzs,hzf⟩:=hcc;obtain rfl:=bB hzs;obtain⟨x',x2,y1,y2,e',rfl,hy1,hy2,hp1,hp2⟩:=XH hc U;cases e';obtain⟨T,b,N,hmo⟩:=Pw hi hm;obtain⟨b',Y,ev⟩:=(Bq hi H hy1 hp1 rfl).KM;rw[N] at Y;cases Y;obtain⟨ek,Q⟩:=PE hk (Bq hi H hy2 hp2 (Sa hk));have l:=hmo;obtain⟨_,_,⟨I,D⟩,es,R,F,q⟩:=hmo;have L:=Ot.keys F q;have J:=Mj (P:=P) R;have W:=K6 (P:=P) (w:=w) false hkt Q;have hfd:=Mk (P:=P) (w:=w) hkt Q L D
   split at f
   ·rename_i j hj
    split at f
    ·rename_i v hv
     split at f
     case isFalse=>cases f
     rename_i hvc;cases f;rw[hA _ rfl];have hjk:=L9 hj;have hjl:=(Ad.1 hjk).1;have r:es[j]?=some es[j]:=Bp am
     obtain⟨hbn,K,V⟩:=q j _ r
     have S:es[j].key=g.val:=by
      rw[hjk] at K;exact(Option.some.inj K).symm
     have X:=V v hv;have h:=D;obtain⟨g1,g2,g3⟩:=Uu F I q hjl (f:=λe=>{ e with key:=g.val }) (v:=v) (λe U=>⟨rfl,by rw[r] at U;cases U;exact S.symm,by rw[r] at U;cases U;exact X⟩)
     have s:=Nh hi z N l T h g1 g2 g3
     have e8:ws.set j v=ws:=by
      refine Ee λi=>?_
      by_cases B:j=i
      ·subst B;rw[List.getElem?_set_self (Ad.1 hv).1,hv]
      ·rw[Je B]
     have e7:σ.set id [.mapo d' z ks ws]=σ:=by
      have hσ:σ[id]?=some [.mapo d' z ks ws]:=by
       unfold mapOf at hm
       split at hm
       ·cases hm;assumption
       ·cases hm
      refine Ee λi=>?_
      by_cases B:id=i
      ·subst B;rw[List.getElem?_set_self T,hσ]
      ·rw[Je B]
     rw[e8,e7] at s;have hob:=bQ w b (.map (es.modify j λe=>{ e with key:=g.val }) (es.modify j λe=>{ e with key:=g.val }).size)
     have E:=QM (X:=λtg=>tg=.obj id none) hob l.1 l.2.1 rfl
     refine .inl ⟨.tuple #[es[j].val,goInt (j:Nat)],_,?_,G,s.M9 (Ext.refl _ _ _) s.base rfl o.dst (Eg H Z hd) rfl (.tuple rfl λi p C=>?_) (λ_ _=>trivial)⟩
     ·have hkey:(Instr.keyThatStays (((es[j]?).map (·.key)).getD g.val) g.val).run P w=.ok g.val w:=by
       rw[r];simp only[AJ,ES,S];exact MV g
      have y:(Instr.findKey kt g.val es.toList).run P w=.ok (some (j,es[j].val)) w:=by
       rw[hfd,hj];simp[r]
      have M:=Kv (P:=P) (es':=es.modify j λe=>{ e with key:=g.val }) (c':=es.size) R
      have e9:(es.modify j λe=>{ e with key:=g.val }).size=es.size:=by simp
      simp only[execOp,ho,ev,ek,Instr.mapEntry,Sem.run_bind,run_underlying ht,Result.andThen_ok,J,W,y,r,AJ,ES,S,MV,M,e9,Sem.run_pure,hbn]
     ·match i with
      |0=>
       simp at C;subst C;exact(lZ X hvc).mono E.I E.same E.bl
      |1=>simp at C;subst C;exact .inl (.int _ _)
      |n+2=>simp at C
    ·cases f
   ·rename_i hj
    split at f
    case isFalse=>cases f
    cases f;rw[hA _ rfl];have h:(ks++[g]).all (J9 d')=true:=by simp[Ga,D,Q]
    obtain⟨g1,g2,g3⟩:=Xx F I q g (BF.one (bl:=G.bl) (.inl (u w)));have s:=Nh hi z N l T h g1 g2 g3;have y:(Instr.findKey kt g.val es.toList).run P w=.ok none w:=by rw[hfd,hj];rfl
    have M:=Kv (P:=P) (es':=es.push { key:=g.val,val:=zv,born:=es.size }) (c':=es.size+1) R;have e9:(es.push { key:=g.val,val:=zv,born:=es.size }).size=es.size+1:=by simp
    refine .inl ⟨.tuple #[zv,goInt (es.size:Nat)],_,?_,G,s.M9 (Ext.refl _ _ _) s.base rfl o.dst (Eg H Z hd) rfl (.tuple rfl λi p C=>?_) (λ_ _=>trivial)⟩
    ·simp only[execOp,ho,ev,ek,Instr.mapEntry,Sem.run_bind,run_underlying ht,Result.andThen_ok,J,W,y,O,M,e9,Sem.run_pure]
    ·match i with
     |0=>simp at C;subst C;exact .inl (u _).Ag
     |1=>simp at C;subst C;rw[F];exact .inl (.int _ _)
     |n+2=>simp at C
  ·cases f
def Aq2(hi:Inv cx G a w A σ)(g:∀t,cx.kd t=fi.kind t){o:Oper}{t:TypeId}{m x y:Operand}(ho:o.op=.entryStore t m x y)(J:o.dst=none)
  {W:List CW} (hc:Ar fi [m,x,y]=some W) (n:Cb pur call { dst:=none,k:=.w .esM,args:=W } A σ=some (A',σ')):Gives P cx o a w A' σ':=by
 obtain⟨vs,rs,U,f,E,X⟩:=KA n;simp only[sem] at f;obtain⟨y1,zs,rfl,R,d⟩:=AX hc;obtain⟨y2,zs,rfl,N,d⟩:=AX d;obtain⟨y3,zs,rfl,H,d⟩:=AX d;cases d;obtain⟨p1,V,rfl,L,u⟩:=Av U;obtain⟨p2,V,rfl,z,u⟩:=Av u;obtain⟨p3,V,rfl,C,u⟩:=Av u;cases u;cases p1 with
 |mref id=>
  cases p2 with
  |int k i=>
   simp only[Fj] at f
   split at f
   ·rename_i d' z' ks ws hm
    split at f
    case isFalse=>cases f
    rename_i T;obtain⟨h0,Z,F⟩:=T;cases f;rw[E rfl];obtain⟨S,b,q,l⟩:=Pw hi hm;obtain⟨b',s,ev⟩:=(Bq hi g R L rfl).KM;rw[q] at s;cases s;have ei:=(Bq hi g N z rfl).CJ;have I:=(Bq hi g H C F).Ag;have r:=l;obtain⟨_,_,⟨p,v⟩,es,h,O,c⟩:=l;have Q:i.toNat<ks.length:=am
    obtain⟨g1,Y,g3⟩:=Uu O p c Q (f:=λe=>{ e with val:=a.eval y }) (v:=p3.Ag) (λe U=>⟨rfl,rfl,I⟩)
    have D:=Nh hi z' q r S v g1 Y g3;refine .inr ⟨_,?_,⟨G,by rw[J];exact D⟩⟩
    have M:=Kv (P:=P) (es':=es.modify i.toNat λe=>{ e with val:=a.eval y }) (c':=es.size) h
    have e9:(es.modify i.toNat λe=>{ e with val:=a.eval y }).size=es.size:=by simp
    have B:es.findIdx? (λe=>(e.born:Int)==i)=some i.toNat:=by
     rw[Array.findIdx?_eq_some_iff_getElem]
     refine⟨am,?_,λj hj=>?_⟩
     ·have:=(c i.toNat _ (Bp am)).1
      simp only[this,beq_iff_eq];omega
     ·have:=(c j _ (Bp am)).1
      grind
    simp only[execOp,ho,ev,ei,Instr.entryStore,Sem.run_bind,Result.andThen_ok,(Mj (P:=P) h),asInt,asIntOf,Sem.run_pure,B,M,e9]
   ·cases f
  |_=>simp[Fj] at f
 |_=>simp[Fj] at f
end
structure Ih(cx:Cx)(fi:FI):Prop where
 kd:∀t,cx.kd t=fi.kind t
 nt:cx.nt=fi.nt
 al:∀t,cx.al t=fi.alias t
section
variable{P:Program}{pur:FuncId->Bool}{call:Caller}{fi:FI}{cx:Cx}{G:Gh}{a:Act}{w:World}{A A':Frm}{σ σ':Sto}{rg:RG}{o:Oper}{ao:AOp}
def mk0{d:Option Nat}{k:AK}{args:Option (List CW)}(h:mk fi d k args=some ao):∃b,args=some b/\ao={ dst:=d,k,args:=b }/\BK fi d=true:=by
 let ⟨_,_,_,_,_⟩:=R7 h
 grind
def mk1{d s:Nat}{k:AK}{args:Option (List CW)}(h:mk fi (some d) k args [s]=some ao):∃b,args=some b/\ao={ dst:=some d,k,args:=b,ex:=[s] }/\Dn fi d=true/\Dn fi s=true/\d≠s:=by
 let ⟨_,c,e,f,_,_⟩:=R7 h
 refine⟨_,c,e,f,by grind,?_⟩
 grind
def AxK(hi:Inv cx G a w A σ)(e:Ih cx fi){x:Operand}(d:o.op=.move x)(c:Cu P pur fi rg o=some ao)(b:Cb pur call ao A σ=some (A',σ')):Gives P cx o a w A' σ':=by
 simp  [Cu,d] at c
 split at c
 ·obtain⟨j,f,rfl,g⟩:=mk0 c;exact zZ hi e.kd e.nt d f g b
 split at c
 ·rename_i s t h
  split at c
  ·rename_i k m
   split at c
   ·rename_i i;cases c;rw[h] at b;exact zL hi e.kd e.nt d h (by rw[e.kd];exact m) i.1 b
   ·cases c
  ·split at c
   ·rw[h] at c;obtain⟨j,f,rfl,g,l,_⟩:=mk1 c;exact lC hi e.kd e.nt (.inl d) h f g l b
   ·obtain⟨j,f,rfl,g⟩:=mk0 c;exact X7 hi e.kd e.nt (.inl d) f g b
 ·obtain⟨j,f,rfl,g⟩:=mk0 c;exact X7 hi e.kd e.nt (.inl d) f g b
def oF(hi:Inv cx G a w A σ)(h:Ih cx fi){x:Operand}(c:o.op=.assign x)(e:Cu P pur fi rg o=some ao)(b:Cb pur call ao A σ=some (A',σ')):Gives P cx o a w A' σ':=by
 simp  [Cu,c] at e
 split at e
 ·split at e
  ·cases m:o.dst with
   |none=>
    obtain⟨j,f,rfl,g,l,s⟩:=R7 e;obtain⟨vs,t,k,i,rfl,u⟩:=NZ rfl b;obtain⟨y,zs,rfl,r,n⟩:=AX f;cases n;obtain⟨p,v,rfl,z,q⟩:=Av k;cases q;simp only[AQ] at i
    split at i
    ·cases i;unfold Cb at b;rw[k] at b;simp only[sem,AQ] at b
     simp_all
    ·cases i
   |some d=>
    rw[m] at e;obtain⟨j,f,rfl,g,l,_⟩:=mk1 e;exact lC hi h.kd h.nt (.inr c) m f g l b
  ·obtain⟨j,f,rfl,g⟩:=mk0 e;exact X7 hi h.kd h.nt (.inr c) f g b
 ·obtain⟨j,f,rfl,g⟩:=mk0 e;exact X7 hi h.kd h.nt (.inr c) f g b
def AYX(hi:Inv cx G a w A σ)(g:Ih cx fi){t:TypeId}{x:Operand}(f:o.op=.box t x)(e:Cu P pur fi rg o=some ao)(b:Cb pur call ao A σ=some (A',σ')):Gives P cx o a w A' σ':=by
 simp  [Cu,f] at e
 split at e
 ·rename_i s n k l
  split at e
  ·cases e
  ·have c:s<cx.nt:=by rw[g.nt];grind
   rw[k] at e
   split at e
   ·rename_i i;obtain⟨m,h,rfl⟩:=Ac.1 e;exact Aq8 hi g.kd g.al f k c (by rw[g.kd];exact i) h b
   ·rename_i i;obtain⟨m,h,rfl⟩:=Ac.1 e;refine AK4 hi g.kd f (λd j=>?_) h (by rw[k];exact b)
    rw[k] at j;cases j;exact⟨c,by rw[g.kd,i];rfl⟩
   ·rename_i i;obtain⟨m,h,rfl⟩:=Ac.1 e;exact Aq9 hi g.kd f k c (by rw[g.kd,i];rfl) h b
   ·cases e
 ·cases e
def vN(hi:Inv cx G a w A σ)(g:Ih cx fi){t:TypeId}(e:o.op=.alloc t)(b:Cu P pur fi rg o=some ao)(d:Cb pur call ao A σ=some (A',σ')):Gives P cx o a w A' σ':=by
 simp  [Cu,e] at b
 split at b
 ·rename_i s n ag z h j i
  split at b
  ·cases b
  ·have c:s<cx.nt:=by rw[g.nt];grind
   rw[h] at b
   split at b
   ·rename_i f;cases b;exact AK1 hi g.al e h c (by rw[g.kd];exact f) i d
   ·rename_i f
    split at b
    ·rename_i k;cases b;exact AK2 hi e h c (by rw[g.kd,f];rfl) i k d
    ·cases b
   ·rename_i f
    split at b
    ·split at b
     ·split at b
      ·cases b;exact AqC hi e h c (by rw[g.kd,f];rfl) i d
      ·cases b
     ·cases b;exact lJ hi e h c (by rw[g.kd,f];rfl) i d
    ·cases b;exact lJ hi e h c (by rw[g.kd,f];rfl) i d
   ·cases b
 ·cases b
def vL(hi:Inv cx G a w A σ)(h:Ih cx fi){t:TypeId}{ps:Array (Nat×Operand)}(d:o.op=.build t ps)(b:Cu P pur fi rg o=some ao)(c:Cb pur call ao A σ=some (A',σ')):Gives P cx o a w A' σ':=by
 simp  [Cu,d] at b
 split at b
 ·rename_i fs z k l
  split at b
  ·rename_i e f
   split at b
   ·rename_i m g;obtain⟨n,i,rfl,j⟩:=mk0 b;exact nR hi h.kd h.nt d k l f g i j c
   ·cases b
  ·cases b
 ·cases b
def Wi(hi:Inv cx G a w A σ)(h:Ih cx fi){t:TypeId}{n:Nat}{ps:Array (Nat×Operand)}(g:o.op=.buildSlice t n ps)(b:Cu P pur fi rg o=some ao)(f:Cb pur call ao A σ=some (A',σ')):Gives P cx o a w A' σ':=by
 simp only[Cu,g] at b
 split at b
 ·split at b
  ·rename_i e k
   split at b
   ·rename_i ag c
    split at b
    ·rename_i d;obtain⟨rfl,rfl⟩:=d;obtain⟨p,i,rfl,j⟩:=mk0 b;cases i;exact AqB hi h.kd h.nt g k c j f
    ·cases b
   ·cases b
  ·cases b
 split at b
 ·rename_i e k
  split at b
  ·rename_i size ag c
   split at b
   ·rename_i d
    simp  [Aj,beq_iff_eq,decide_eq_true_eq] at d
    obtain⟨⟨⟨⟨⟨m,c2⟩,l⟩,q⟩,s⟩,r⟩:=d;obtain⟨p,i,rfl,j⟩:=mk0 b;exact AqA hi h.kd h.nt g k c m c2 l q s r i j f
   ·cases b
  ·cases b
 ·cases b
def QQ{s:Nat}(c:¬fi.nt<=s)(b:(fi.kind s).val=true):Ar fi [.tmp s]=some [.slot s]:=by
 simp  [Ar,Hg]
 cases h:fi.kind s<;>rw[h] at b<;>first | (simp[SK.val] at b;done) | grind
def AxL(hi:Inv cx G a w A σ)(g:Ih cx fi){t:TypeId}{x:Operand}(f:o.op=.load t x)(d:Cu P pur fi rg o=some ao)(e:Cb pur call ao A σ=some (A',σ')):Gives P cx o a w A' σ':=by
 cases h:o.dst with
 |none=>
  simp only[Cu,f,h,Bool.and_false,Bool.false_eq_true,if_false] at d
  split at d
  ·rename_i n ag c
   split at d
   ·rename_i s
    split at d
    ·cases d
    ·rename_i v
     split at d
     ·rename_i p
      split at d
      ·simp at d
      obtain⟨l,i,rfl,k⟩:=mk0 d;cases i;exact X9 hi g.kd g.nt f (by rw[g.kd];exact p) c (by rw[h];exact k) (by rw[h];exact e)
     ·split at d
      ·rename_i b r
       split at d
       ·rename_i y;obtain⟨l,i,rfl,k⟩:=mk0 d;cases i;exact lF hi g.kd g.nt f c (by rw[h];exact k) (by rw[h];exact e)
       ·cases d
      ·split at d
       ·obtain⟨l,i,rfl,k⟩:=mk0 d;exact X8 hi g.kd g.nt f c i (by rw[h];exact k) (by rw[h];exact e)
       ·split at d
        ·cases d
        rename_i m;obtain⟨l,i,rfl,k⟩:=mk0 d;exact uA hi g.kd g.nt f c m i (by rw[h];exact k) (by rw[h];exact e)
   ·cases d
  ·cases d
 |some u=>
  simp only[Cu,f,h] at d
  split at d
  ·rename_i n ag c
   split at d
   ·rename_i s
    split at d
    ·cases d
    ·rename_i v
     split at d
     ·rename_i p
      split at d
      ·split at d
       ·rename_i j;simp only[Aj] at j;cases d;obtain⟨⟨i,_⟩,rfl⟩:=j;exact zU hi g.kd g.nt f h (by rw[g.kd];exact p) c i e
       ·cases d
      obtain⟨l,i,rfl,k⟩:=mk0 d;cases i;exact X9 hi g.kd g.nt f (by rw[g.kd];exact p) c (by rw[h];exact k) (by rw[h];exact e)
     ·split at d
      ·rename_i b r
       split at d
       ·rename_i y
        split at d
        ·rename_i j;simp only[Aj,Ik] at j
         split at d
         ·rename_i q;cases d;obtain⟨rfl,_⟩:=j;exact uz hi g.kd g.nt f h c q e
         ·cases d
        ·obtain⟨l,i,rfl,k⟩:=mk0 d;cases i;exact lF hi g.kd g.nt f c (by rw[h];exact k) (by rw[h];exact e)
       ·cases d
      ·split at d
       ·rename_i j;obtain⟨l,i,rfl,k⟩:=mk0 d;simp only[Aj,Ik] at j;obtain⟨rfl,_⟩:=j;exact zV hi g.kd g.nt f h c k i e
       ·split at d
        ·obtain⟨l,i,rfl,k⟩:=mk0 d;exact X8 hi g.kd g.nt f c i (by rw[h];exact k) (by rw[h];exact e)
        ·split at d
         ·cases d
         rename_i m;obtain⟨l,i,rfl,k⟩:=mk0 d;exact uA hi g.kd g.nt f c m i (by rw[h];exact k) (by rw[h];exact e)
   ·cases d
  ·cases d
def vI(hi:Inv cx G a w A σ)(g:Ih cx fi){t:TypeId}{y x:Operand}(e:o.op=.store t y x)(d:Cu P pur fi rg o=some ao)(c:Cb pur call ao A σ=some (A',σ')):Gives P cx o a w A' σ':=by
 simp only[Cu,e] at d
 split at d
 ·rename_i n ag s b j
  split at d
  ·cases d
  ·rename_i p
   split at d
   ·rename_i l;obtain⟨k,h,rfl⟩:=Ac.1 d;exact zH hi g.kd e j (by rw[g.kd];exact l) b h c
   ·rename_i l;obtain⟨k,h,rfl⟩:=Ac.1 d;exact zI hi g.kd e j (by rw[g.kd,l];rfl) b h c
   ·rename_i m _;have i:cx.kd s≠.box:=by rw[g.kd];exact m
    split at d
    ·split at d
     ·split at d
      ·split at d
       ·rename_i f;simp only[Aj,beq_iff_eq] at f;cases d;exact ut hi g.kd g.nt e j b f.2 f.1.2 c
       ·obtain⟨k,h,rfl⟩:=Ac.1 d;exact lw hi g.kd e j b h c
      ·obtain⟨k,h,rfl⟩:=Ac.1 d;exact lw hi g.kd e j b h c
     ·cases d
    ·split at d
     ·split at d
      ·rename_i f;simp only[Aj,beq_iff_eq] at f;cases d;exact zG hi g.kd g.nt e j i b f.2 f.1.2 c
      ·obtain⟨k,h,rfl⟩:=Ac.1 d;exact uu hi g.kd e j i b h c
     ·obtain⟨k,h,rfl⟩:=Ac.1 d;exact uu hi g.kd e j i b h c
 ·cases d
def vM(hi:Inv cx G a w A σ)(g:Ih cx fi){p:BinOp}{t n:TypeId}{x y:Operand}(c:o.op=.binOp p t x y n)(h:Cu P pur fi rg o=some ao)(b:Cb pur call ao A σ=some (A',σ')):Gives P cx o a w A' σ':=by
 simp  [Cu,c] at h
 split at h
 ·obtain⟨i,f,rfl,d⟩:=mk0 h;exact RU hi g.kd g.nt c (by simp) (by simp) f d b
 ·obtain⟨i,f,rfl,d⟩:=mk0 h;exact RU hi g.kd g.nt c (by simp) (by simp) f d b
 ·rename_i j;obtain⟨i,f,rfl,d⟩:=mk0 h;exact RU hi g.kd g.nt c (λ_=>j) (by simp) f d b
 ·rename_i ps m v j;obtain⟨i,f,rfl,d⟩:=mk0 h;exact RU hi g.kd g.nt c (by simp) (λ_=>⟨_,m,v,j⟩) f d b
 ·rename_i e j
  split at h
  ·obtain⟨i,f,rfl,d⟩:=mk0 h;exact bM hi g.kd g.nt (ne:=false) rfl c j f d b
  ·obtain⟨i,f,rfl,d⟩:=mk0 h;exact bM hi g.kd g.nt (ne:=true) rfl c j f d b
  ·obtain⟨i,f,rfl,d⟩:=mk0 h
   let ⟨vs,m,_,k,_,_⟩:=NZ rfl b
   cases vs<;>simp[AQ] at k
 ·split at h
  ·rename_i ts l
   split at h
   ·obtain⟨i,f,rfl,d⟩:=mk0 h;exact lK hi g.kd g.nt (ne:=false) rfl c l f d b
   ·obtain⟨i,f,rfl,d⟩:=mk0 h;exact lK hi g.kd g.nt (ne:=true) rfl c l f d b
   ·obtain⟨i,f,rfl,d⟩:=mk0 h
    let ⟨vs,m,_,k,_,_⟩:=NZ rfl b
    simp[AQ] at k
  ·obtain⟨i,f,rfl,d⟩:=mk0 h;have⟨vs,m,_,k,_,_⟩:=NZ rfl b;simp[AQ] at k
def jF(hi:Inv cx G a w A σ)(g:Ih cx fi){s t:TypeId}{x:Operand}(f:o.op=.convert s t x)(b:Cu P pur fi rg o=some ao)(c:Cb pur call ao A σ=some (A',σ')):Gives P cx o a w A' σ':=by
 simp  [Cu,f] at b
 split at b
 ·rename_i k j;obtain⟨q,h,rfl,i⟩:=mk0 b;exact Aq4 hi g.kd g.nt f k j h i c
 ·rename_i e k j
  split at b
  ·rename_i n m;obtain⟨q,h,rfl,i⟩:=mk0 b;exact Aq6 hi g.kd g.nt f k j n h i c
  ·cases b
 ·rename_i y e k j
  split at b
  ·rename_i u d n p
   split at b
   ·rename_i l;rw[p] at b;obtain⟨q,h,rfl,i,v,r⟩:=mk1 b;exact Aq5 hi g.kd g.nt f l p k j n h i v r c
   ·cases b
  ·cases b
 ·cases b
def oD(hi:Inv cx G a w A σ)(h:Ih cx fi){t:TypeId}{m:Operand}{k x:Operand}(d:o.op=.insert t m k x)(b:Cu P pur fi rg o=some ao)(c:Cb pur call ao A σ=some (A',σ')):Gives P cx o a w A' σ':=by
 cases m with
 |tmp m=>
  simp  [Cu,d] at b
  split at b
  ·rename_i z y u s n f B l
   split at b
   ·rename_i D C q e g
    split at b
    ·rename_i i
     let ⟨p,rfl,_,_⟩:=i
     obtain⟨v,j,rfl⟩:=Ac.1 b;exact lG hi h.kd d l n e (by simp) p (by rw[h.kd];exact f) (by rw[h.kd];exact g) j c
    ·cases b
   ·rename_i C q e g
    split at b
    ·rename_i i;have⟨p,rfl,E,H⟩:=i;obtain⟨v,j,rfl⟩:=Ac.1 b;exact lG hi h.kd d l n e (.inr rfl) p (by rw[h.kd];exact f) (by rw[h.kd];exact g) j c
    ·cases b
   ·cases b
  ·rename_i z y n f l
   split at b
   ·rename_i kd r;obtain⟨v,j,rfl,F⟩:=mk0 b;rw[l] at c;exact lv hi h.kd (.inr d) l n r j c
   ·cases b
  ·cases b
 |_=>simp[Cu,d] at b
def jE(hi:Inv cx G a w A σ)(e:Ih cx fi){t:TypeId}{r:Option Operand}(d:o.op=.makeMap t r)(c:Cu P pur fi rg o=some ao)(b:Cb pur call ao A σ=some (A',σ')):Gives P cx o a w A' σ':=by
 cases r with
 |some r=>simp[Cu,d] at c
 |none=>
  simp  [Cu,d] at c
  split at c
  ·rename_i s l m f n
   split at c
   ·split at c
    ·obtain⟨p,j,rfl,i⟩:=mk0 c;cases j;rw[f] at i b;exact zP hi e.kd e.nt d f i b
    ·cases c
   ·rename_i h k
    split at c
    ·rename_i g;cases c;rw[f] at b;exact zN hi e.kd d f (by rw[e.nt];exact g) (by rw[e.kd];exact k) b
    ·cases c
   ·cases c
  ·cases c
def oz(hi:Inv cx G a w A σ)(f:Ih cx fi){t:TypeId}{x i:Operand}{ok:Bool}(e:o.op=.lookup t x i ok)(b:Cu P pur fi rg o=some ao)(c:Cb pur call ao A σ=some (A',σ')):Gives P cx o a w A' σ':=by
 simp  [Cu,e] at b
 split at b
 ·split at b
  ·rename_i n m k
   split at b
   ·rename_i kd z d j;obtain⟨l,h,rfl,g⟩:=mk0 b;exact zT hi f.kd f.nt e k d j h g c
   ·cases b
  ·cases b
 split at b
 ·rename_i n m k
  split at b
  ·rename_i p z d j;obtain⟨l,h,rfl,g⟩:=mk0 b;exact bO hi f.kd f.nt e k d (by simp) j h g c
  ·rename_i z d j;obtain⟨l,h,rfl,g⟩:=mk0 b;exact bO hi f.kd f.nt e k d (.inr rfl) j h g c
  ·cases b
 ·cases b
def AxM(hi:Inv cx G a w A σ)(h:Ih cx fi){t:TypeId}{x:Operand}{l i:IntKind}{p q:Int}(d:o.op=.slice t x none (some (.const (.int l p))) (some (.const (.int i q))))(b:Cu P pur fi rg o=some ao)(f:Cb pur call ao A σ=some (A',σ')):Gives P cx o a w A' σ':=by
 simp only[Cu,d] at b
 split at b
 case isFalse=>cases b
 rename_i g;obtain⟨rfl,rfl⟩:=g
 split at b
 ·rename_i e k
  split at b
  ·rename_i ag c;obtain⟨n,m,rfl,j⟩:=mk0 b;exact uD hi h.kd h.nt d k c m j f
  ·cases b
 ·cases b
def ZP(hi:Inv cx G a w A σ)(j:Ih cx fi){t:TypeId}{l c:Operand}(g:o.op=.makeSlice t l c)(b:Cu P pur fi rg o=some ao)(h:Cb pur call ao A σ=some (A',σ')):Gives P cx o a w A' σ':=by
 simp  [Cu,g] at b
 split at b
 ·rename_i e d q k
  split at b
  ·rename_i r z i m
   split at b
   ·rename_i f;rw[k] at b;obtain⟨s,p,rfl,n⟩:=mk0 b;exact zM hi j.kd j.nt g k q i m f.1 f.2.1 f.2.2 p n h
   ·cases b
  ·cases b
 ·cases b
def vK(hi:Inv cx G a w A σ)(i:Ih cx fi){t:TypeId}{x:Operand}{lo h k:Option Operand}(c:o.op=.slice t x lo h k)(b:Cu P pur fi rg o=some ao)(d:Cb pur call ao A σ=some (A',σ')):Gives P cx o a w A' σ':=by
 cases k with
 |some k=>
  have j:∃u p s q,lo=none/\h=some (.const (.int u p))/\k=.const (.int s q):=by
   simp only[Cu,c] at b
   split at b<;>simp_all
  obtain⟨u,p,s,q,rfl,rfl,rfl⟩:=j;exact AxM hi i c b d
 |none=>
  simp only[Cu,c] at b
  split at b
  ·rename_i l
   split at b
   ·rename_i v f;obtain⟨m,r,rfl,n⟩:=mk0 b;cases r;exact zJ hi i.kd i.nt c l f n d
   ·cases b
  ·rename_i e l
   split at b
   ·rename_i size ag v g f
    split at b
    ·obtain⟨m,r,rfl,n⟩:=mk0 b;cases r;exact zF hi i.kd i.nt c l g f n d
    ·cases b
   ·cases b
  ·cases b
def lH(hi:Inv cx G a w A σ)(h:Ih cx fi){t:TypeId}{s u f:Nat}(j:o.op=.fieldAddr t (.tmp s) f)(E:o.dst=some u)
  {fs:Array Field} {C:Field} (H:P.underlying t=some (.struct fs)) (K:fs[f]?=some C) {n:Nat} {ag:Bool} (F:Cy P C.type=some (n,ag)) (q:n≠0) (k:¬fi.nt<=s) (z:fi.kind s≠.box)
  (B:∀b,fi.alias s=some b->fi.alias u=some b) (r:Dn fi u=true) (c:Cb pur call { dst:=some u,k:=.p (.fa C.offset n ag),args:=[.slot s] } A σ=some (A',σ')):Gives P cx o a w A' σ':=by
 by_cases J:∃O off,A.get s=some (.lref O off)
 ·let ⟨_,_,v⟩:=J
  have e:=(NL hi v).2.1;rw[h.al] at e;exact uC hi h.kd h.nt h.al j E H K F q e (B _ e) r v c
 ·have i:(fi.kind s).val=true:=by
   let ⟨_,_,D,g,_,_⟩:=NZ rfl c
   obtain⟨p,R,rfl,M,N⟩:=Av D;cases N
   let ⟨v,_⟩:=DW M
   have l:=hi.slot s p v;rw[<-h.kd];cases x:cx.kd s with
   |box=>exact absurd (by rw[<-h.kd];exact x) z
   |mapb I=>
    have:=((H8 x).1 l).1;subst this;simp[AQ,faV] at g
   |ent m Q=>
    obtain⟨_,_,_,_,rfl,_⟩:=(IL x).1 l;simp[AQ,faV] at g
   |_=>rfl
  refine AK3 hi h.kd h.nt j H K F q ?_ (QQ k i) (by rw[E];exact r) (by rw[E];exact c)
  rintro p d off rfl y L D
  have:=QQ k i
  simp  [Ar,L] at this
  cases this;exact J ⟨d,_,(DW D).1⟩
def ZR(hi:Inv cx G a w A σ)(l:Ih cx fi){t:TypeId}{x:Operand}{f:Nat}(e:o.op=.fieldAddr t x f)(b:Cu P pur fi rg o=some ao)(c:Cb pur call ao A σ=some (A',σ')):Gives P cx o a w A' σ':=by
 simp only[Cu,e] at b
 split at b
 ·rename_i fs v
  split at b
  ·rename_i C r
   split at b
   ·rename_i n ag d
    split at b
    ·cases b
    ·rename_i h
     split at b
     ·rename_i s u k
      split at b
      ·cases b
      ·rename_i q
       split at b
       ·rename_i B
        split at b
        ·rename_i i;obtain⟨y,m,rfl,g⟩:=mk0 b;cases m;rw[k] at g c;exact Aq0 hi l.kd l.nt l.al e k v r d h (by rw[l.kd];exact B) i g c
        ·cases b
       ·rename_i p
        split at b
        ·split at b
         ·obtain⟨y,m,rfl,g⟩:=mk0 b;cases m;rw[k] at g c;exact lH hi l e k v r d h q p (λz j=>by grind) g c
         ·cases b
        ·rename_i i;obtain⟨y,m,rfl,g⟩:=mk0 b;cases m;rw[k] at g c;exact lH hi l e k v r d h q p (λz j=>by rw[i] at j;cases j) g c
     ·cases b
   ·cases b
  ·cases b
 ·cases b
def bP(hi:Inv cx G a w A σ)(j:Ih cx fi){t e:TypeId}{s u:Nat}{i:Operand}(r:o.op=.indexAddr t (.tmp s) i)(D:o.dst=some u)
  {n:Nat} (Q:P.underlying t=some (.array n e)) {size:Nat} {ag:Bool} (z:Cy P e=some (size,ag)) (M:¬fi.nt<=s) (J:fi.kind s≠.box)
  (L:∀b,fi.alias s=some b->fi.alias u=some b) (l:Dn fi u=true) {F:List CW} (E:Ar fi [i]=some F) (f:Cb pur call { dst:=some u,k:=.p (.ixa n size ag),args:=.slot s::F } A σ=some (A',σ')):Gives P cx o a w A' σ':=by
 by_cases T:∃S off,A.get s=some (.lref S off)
 ·obtain⟨S,off,C⟩:=T;have g:=(NL hi C).2.1;rw[j.al] at g;exact uB hi j.kd j.nt j.al r D Q z g (L _ g) l C E f
 ·have x:(fi.kind s).val=true:=by
   obtain⟨vs,Z,K,c,_,_⟩:=NZ rfl f;obtain⟨p,V,rfl,Y,N⟩:=Av K;obtain⟨y,zs,rfl,O,X⟩:=AX E;cases X;obtain⟨q,V,rfl,U,N⟩:=Av N;cases N
   let ⟨C,_⟩:=DW Y
   have v:=hi.slot s p C;rw[<-j.kd];have B:∀p,ixV n size ag p q=none->AQ (.ixa n size ag) [p,q]=none:=λp h=>by simp only[AQ,h];rfl
   cases I:cx.kd s with
   |box=>exact absurd (by rw[<-j.kd];exact I) J
   |mapb R=>
    have:=((H8 I).1 v).1;subst this;rw[B _ (by unfold ixV;split<;>first | rfl | (split<;>rfl))] at c;cases c
   |ent m W=>
    obtain⟨_,_,_,_,rfl,_⟩:=(IL I).1 v;rw[B _ (by unfold ixV;split<;>first | rfl | (split<;>rfl))] at c;cases c
   |_=>rfl
  have k:=QQ M x
  have H:Ar fi [.tmp s,i]=some (.slot s::F):=by
   simp  [Ar] at k E ⊢
   grind
  refine zX hi j.kd j.nt r Q z ?_ H (by rw[D];exact l) (by rw[D];exact f)
  rintro p d off rfl y O K
  simp  [Ar,O] at k
  cases k;exact T ⟨d,off,(DW K).1⟩
def ZQ(hi:Inv cx G a w A σ)(j:Ih cx fi){t:TypeId}{x i:Operand}(g:o.op=.indexAddr t x i)(b:Cu P pur fi rg o=some ao)(c:Cb pur call ao A σ=some (A',σ')):Gives P cx o a w A' σ':=by
 simp only[Cu,g] at b
 split at b
 ·rename_i e q
  split at b
  ·rename_i size ag d
   split at b
   ·obtain⟨z,k,rfl,h⟩:=mk0 b;exact zY hi j.kd j.nt g q d k h c
   ·cases b
  ·cases b
 ·rename_i n e q
  split at b
  ·rename_i size ag d
   split at b
   ·cases b
   ·split at b
    ·rename_i s u p
     split at b
     ·cases b
     ·rename_i r
      split at b
      ·rename_i C
       split at b
       ·rename_i l;obtain⟨z,k,rfl,h⟩:=mk0 b;obtain⟨y,f,rfl⟩:=Ac.1 k;rw[p] at h c;exact zW hi j.kd j.nt j.al g p q d (by rw[j.kd];exact C) l h f c
       ·cases b
      ·rename_i v
       split at b
       ·split at b
        ·obtain⟨z,k,rfl,h⟩:=mk0 b;obtain⟨y,f,rfl⟩:=Ac.1 k;rw[p] at h c;exact bP hi j g p q d r v (λB m=>by grind) h f c
        ·cases b
       ·rename_i l;obtain⟨z,k,rfl,h⟩:=mk0 b;obtain⟨y,f,rfl⟩:=Ac.1 k;rw[p] at h c;exact bP hi j g p q d r v (λB m=>by rw[l] at m;cases m) h f c
    ·cases b
  ·cases b
 ·cases b
def AxN{ro:Option Nat}{n:Nat}{K:Act->World->Prop}{Q:Exit->Act->World->Prop}(J:Iu P call)(hi:Inv cx G a w A σ)(l:Ih cx fi){c:Call}(i:o.op=.call c)(g:Cu P pur fi rg o=some ao)
  (h:Cb pur call ao A σ=some (A',σ')) (C:∀a' R,Sim cx a' R A' σ'->Kept o.dst a a'->K a' R):o.wpIn (FW ro) n P a w K Q:=by
 have r:∀c',o.op≠.defer c':=by simp[i]
 simp only[Cu,i] at g
 split at g
 ·rename_i f b
  split at g
  ·obtain⟨D,m,rfl,p⟩:=mk0 g;exact BjK J hi l.kd l.nt i b m p h C
  split at g
  ·rename_i T;obtain⟨d,F⟩:=Dx.1 T.2;obtain⟨D,m,rfl,p⟩:=mk0 g;exact nP J hi l.kd l.nt i b F m p h C
  ·obtain⟨D,m,rfl,p⟩:=mk0 g;exact uF J hi l.kd l.nt i b m p h C
 ·rename_i x _ b;obtain⟨D,m,rfl,p⟩:=mk0 g;exact nQ J hi l.kd l.nt i b m p h C
 ·rename_i b
  split at g
  ·rename_i H;obtain⟨D,m,rfl,p⟩:=mk0 g;exact(lD hi l.kd l.nt i b (.inl ⟨rfl,H⟩) m p h).wp r C
  ·rename_i e H;obtain⟨D,m,rfl,p⟩:=mk0 g;exact(lD hi l.kd l.nt i b (.inr ⟨rfl,e,H⟩) m p h).wp r C
  ·rename_i V U H;obtain⟨D,m,rfl,p⟩:=mk0 g;exact(zS hi l.kd l.nt i b H m p h).wp r C
  ·cases g
 ·rename_i b
  split at g
  ·rename_i e H;obtain⟨D,m,rfl,p⟩:=mk0 g;exact(uE hi l.kd l.nt i b ⟨e,H⟩ m p h).wp r C
  ·cases g
 ·rename_i b
  split at g
  ·split at g
   ·rename_i s x y z d E B F;have q:c.argTypes=#[s,x]:=by apply Cw.1;exact E
    have k:c.args=#[y,z]:=by apply Cw.1;exact B
    split at g
    ·rename_i e M I v
     split at g
     ·rename_i N t
      split at g
      ·rename_i j;rw[F] at g;obtain⟨D,m,rfl,p⟩:=mk0 g;exact(uH hi l.kd l.nt i b k q F I ⟨M,v⟩ t j.1 j.2.1 j.2.2 m p h).wp r C
      ·cases g
     ·cases g
    ·rename_i e W I v
     split at g
     ·rename_i N X t S
      split at g
      ·rename_i j;rw[F] at g;obtain⟨D,m,rfl,p⟩:=mk0 g;exact(uG hi l.kd l.nt i b k q F I v t S j.1 j.2.1 j.2.2 m p h).wp r C
      ·cases g
     ·cases g
    ·cases g
   ·cases g
  split at g
  ·rename_i s x u y d E B F;have q:c.argTypes=#[s,x]:=by apply Cw.1;exact E
   have k:c.args=#[.tmp u,y]:=by apply Cw.1;exact B
   split at g
   ·rename_i e M I v
    split at g
    ·rename_i N t
     split at g
     ·rename_i j;rw[F] at g;obtain⟨D,m,rfl,p,L,O⟩:=mk1 g;exact(lI hi l.kd l.nt i b k q F I (.inl ⟨M,v⟩) t j.1 j.2.1 j.2.2 m p L O h).wp r C
     ·cases g
    ·cases g
   ·rename_i e I v
    split at g
    ·rename_i N t
     split at g
     ·rename_i j;rw[F] at g;obtain⟨D,m,rfl,p,L,O⟩:=mk1 g;exact(lI hi l.kd l.nt i b k q F I (.inr v) t am j.2.1 j.2.2 m p L O h).wp r C
     ·cases g
    ·cases g
   ·cases g
  ·cases g
 ·rename_i b
  split at g
  ·obtain⟨D,m,rfl,p⟩:=mk0 g;exact(zQ hi l.kd l.nt i b m p h).wp r C
  ·cases g
 ·rename_i b
  split at g
  ·obtain⟨D,m,rfl,p⟩:=mk0 g;exact(zR hi l.kd l.nt i b m p h).wp r C
  ·cases g
 ·cases g
def vJ{ro:Option Nat}{n:Nat}{K:Act->World->Prop}{Q:Exit->Act->World->Prop}(R:Iu P call)(hi:Inv cx G a w A σ)(g:Ih cx fi)(e:Cu P pur fi rg o=some ao)
  (d:Cb pur call ao A σ=some (A',σ')) (I:∀a' F,Sim cx a' F A' σ'->Kept o.dst a a'->K a' F):o.wpIn (FW ro) n P a w K Q:=by
 have j:Gives P cx o a w A' σ'->(∀c',o.op≠.defer c')->o.wpIn (FW ro) n P a w K Q:=λh v=>h.wp v I
 cases b:o.op with
 |move x=>exact j (AxK hi g b e d) (by simp[b])
 |assign x=>exact j (oF hi g b e d) (by simp[b])
 |pick c x y=>
  refine j ?_ (by simp[b])
  simp only[Cu,b] at e;obtain⟨u,p,rfl,q⟩:=mk0 e;exact uy hi g.kd g.nt b p q d
 |box t x=>exact j (AYX hi g b e d) (by simp[b])
 |alloc t=>exact j (vN hi g b e d) (by simp[b])
 |build t ps=>exact j (vL hi g b e d) (by simp[b])
 |buildSlice t n ps=>exact j (Wi hi g b e d) (by simp[b])
 |load t x=>exact j (AxL hi g b e d) (by simp[b])
 |store t x y=>exact j (vI hi g b e d) (by simp[b])
 |nilCheck x=>
  refine j ?_ (by simp[b])
  simp only[Cu,b] at e;obtain⟨u,p,rfl,q⟩:=mk0 e;exact Aq7 hi g.kd g.nt b p q d
 |binOp H t x y X=>exact j (vM hi g b e d) (by simp[b])
 |unOp H t x=>
  refine j ?_ (by simp[b])
  cases H with
  |not=>
   simp only[Cu,b] at e;obtain⟨u,p,rfl,q⟩:=mk0 e;exact zK hi g.kd g.nt b p q d
  |_=>simp[Cu,b] at e
 |convert s t x=>exact j (jF hi g b e d) (by simp[b])
 |makeFunc O E cap=>
  refine j ?_ (by simp[b])
  cases O with
  |func f=>
   simp only[Cu,b] at e;obtain⟨u,p,rfl,q⟩:=mk0 e;exact zO hi g.kd g.nt b p q d
  |_=>simp[Cu,b] at e
 |makeMap t r=>exact j (jE hi g b e d) (by simp[b])
 |makeSlice t l c=>exact j (ZP hi g b e d) (by simp[b])
 |insert t m k x=>exact j (oD hi g b e d) (by simp[b])
 |lookup t x i ok=>exact j (oz hi g b e d) (by simp[b])
 |mapUpdate t m k x=>
  refine j ?_ (by simp[b])
  simp only[Cu,b] at e
  split at e
  ·rename_i S M D
   split at e
   ·rename_i kd B v;obtain⟨u,p,rfl,q⟩:=mk0 e;rw[v] at d;exact lv hi g.kd (.inl b) v D B p d
   ·cases e
  ·cases e
 |mapEntry t m k=>
  refine j ?_ (by simp[b])
  simp only[Cu,b] at e
  split at e
  ·rename_i S M D
   split at e
   ·rename_i kd z B L;obtain⟨u,p,rfl,q⟩:=mk0 e;exact Aq3 hi g.kd g.nt b D B L p q d
   ·cases e
  ·cases e
 |entryStore t m i x=>
  refine j ?_ (by simp[b])
  simp only[Cu,b] at e
  split at e
  ·rename_i v;obtain⟨u,p,rfl,q⟩:=mk0 e;rw[v] at d;exact Aq2 hi g.kd b v p d
  ·cases e
 |indexAddr t x i=>exact j (ZQ hi g b e d) (by simp[b])
 |index t x i=>
  refine j ?_ (by simp[b])
  simp only[Cu,b] at e
  split at e
  ·rename_i D;obtain⟨u,p,rfl,q⟩:=mk0 e;exact uw hi g.kd g.nt b D p q d
  ·cases e
 |slice t x lo J V=>exact j (vK hi g b e d) (by simp[b])
 |fieldAddr t x f=>exact j (ZR hi g b e d) (by simp[b])
 |field t x f=>
  refine j ?_ (by simp[b])
  simp only[Cu,b] at e
  split at e
  ·rename_i fs C
   split at e
   ·rename_i W U
    split at e
    ·rename_i n ag T;obtain⟨u,p,rfl,q⟩:=mk0 e;exact z8 hi g.kd g.nt b C U T p q d
    ·cases e
   ·cases e
  ·cases e
 |extract x i=>
  refine j ?_ (by simp[b])
  simp only[Cu,b] at e;obtain⟨u,p,rfl,q⟩:=mk0 e;exact Aq1 hi g.kd g.nt b p q d
 |call c=>exact AxN R hi g b e d I
 |panic x=>
  simp only[Cu,b] at e;obtain⟨u,p,rfl,q⟩:=mk0 e;obtain⟨vs,N,_,C,_,_⟩:=NZ rfl d;cases vs<;>simp[AQ] at C
 |makeInterface t x=>
  simp only[Cu,b] at e;obtain⟨u,p,rfl,q⟩:=mk0 e;obtain⟨vs,N,_,C,_,_⟩:=NZ rfl d;cases vs<;>simp[AQ] at C
 |_=>simp[Cu,b] at e
end
section
variable{P:Program}{pur:FuncId->Bool}{call:Caller}{fi:FI}{cx:Cx}{G:Gh}{a:Act}{w:World}{A A':Frm}{σ σ':Sto}{F:RG}{o:Oper}{ao:AOp}{ops:Array Oper}
def AU5{d:Option Nat}{k:AK}{args:Option (List CW)}{b:List Nat}(h:mk fi d k args b=some ao):ao.dst=d:=by
 obtain⟨c,_,rfl,_⟩:=R7 h;rfl
def kg(h:Cu P pur fi F o=some ao):ao.dst=o.dst:=by
 unfold Cu at h;dsimp only at h
 repeat' (split at h)
 all_goals first
  |(cases h;done)
  |exact AU5 h
  |(cases h;rfl)
  |(cases h;simp_all;done)
  |(obtain⟨_,_,rfl⟩:=Ac.1 h;rfl)
  |(obtain⟨_,_,rfl⟩:=Ac.1 h;simp_all;done)
def Rp(h:NR P pur fi F o=some ao):ao.dst=o.dst:=by
 unfold NR at h
 split at h
 ·rename_i a b;cases h;exact kg b
 ·cases h;rfl
def ow{ro:Option Nat}{n:Nat}{K:Act->World->Prop}{Q:Exit->Act->World->Prop}(h:Iu P call)(hi:Inv cx G a w A σ)(g:Ih cx fi)(c:NR P pur fi F o=some ao)
  (b:Cb pur call ao A σ=some (A',σ')) (f:∀a' e,Sim cx a' e A' σ'->Kept o.dst a a'->K a' e):o.wpIn (FW ro) n P a w K Q:=by
 unfold NR at c
 split at c
 ·rename_i a' d;cases c;exact vJ h hi g d b f
 ·cases c;obtain⟨vs,j,_,i,_⟩:=KA b;cases vs<;>simp[sem,AQ] at i
def BqS(P:Program)(pur:FuncId->Bool)(fi:FI)(ops:Array Oper)(o:Oper)(ao:AOp):Prop:=
 ∃F a,NR P pur fi F o=some a/\Mc fi ops o.guard=some ao.guard/\ao={ a with guard:=ao.guard }/\(ao.guard.isSome=true->a.ex=[]/\a.clr=[]/\BK fi a.dst=true)
def Oq{id:Nat}{F:RG}:∀(l:List Oper) (j:Nat) (e:List AOp),PN P pur fi id F ops j l=some e->
  e.length=l.length/\∀(i:Nat) (o:Oper) (ao:AOp),l[i]?=some o->e[i]?=some ao->BqS P pur fi ops o ao
 |[],j,e,h=>by cases h;exact⟨rfl,λi o ao h=>by simp at h⟩
 |o::l,j,e,h=>by
  simp only[PN] at h
  split at h
  ·rename_i a g k p t v
   split at h
   ·cases h
   ·rename_i r;cases h;obtain⟨x,s⟩:=Oq l (j+1) k v;refine⟨by simp[x],λi u f n m=>?_⟩
    cases i with
    |zero=>
     simp at n m;subst n m;refine⟨_,a,p,t,rfl,λq=>?_⟩
     have d:¬(a.ex≠[]\/a.clr≠[]\/BK fi a.dst=false):=λh=>r ⟨q,h⟩
     simp only[not_or,ne_eq,Classical.not_not,Bool.not_eq_false] at d;exact d
    |succ i=>exact s i u f (by simpa using n) (by simpa using m)
  ·cases h
def Wx(hi:Inv cx G a w A σ)(q:Ih cx fi){g:Option (Nat×Bool)}(d:Mc fi ops o.guard=some g){b:Bool}(f:Iy A g=some b):Region.wanted o (yielded ops a.tmps)=b:=by
 unfold Region.wanted;cases i:o.guard with
 |none=>
  rw[i] at d;simp only[Mc] at d;cases d;simp only[Iy] at f;cases f;rfl
 |some s=>
  obtain⟨j,k⟩:=s;rw[i] at d;simp only[Mc] at d
  split at d
  ·rename_i t r
   split at d
   ·rename_i u;cases d;have h:=FU q.kd q.nt u;have m:t<a.tmps.size:=by rw[hi.size];exact h.1
    have l:a.tmps[t]?=some (at' a t):=by simp[at',Array.getD,m]
    simp only[Iy] at f
    split at f
    ·rename_i c p;cases f;have n:=((Ch h.2 rfl).1 (hi.slot t _ p)).1.Iq;simp only[yielded,r,Ep,l,n];cases c<;>cases k<;>rfl
    ·rename_i p;cases f;obtain⟨cs,n,_⟩:=((Ch h.2 rfl).1 (hi.slot t _ p)).1.WC;simp only[yielded,r,Ep,l,n];rfl
    ·cases f
   ·cases d
  ·cases d
def nJ{I:Imm}{bl:Bl}:BF I bl w undef Li:=by
 refine .tuple (cs:=#[]) rfl λi p h=>by simp at h
def Ur{ro:Option Nat}{n:Nat}{K:Act->World->Prop}{Q:Exit->Act->World->Prop}(z:Iu P call)(f:Ih cx fi){i:Nat}(y:ops[i]?=some o)(m:BqS P pur fi ops o ao)(c:Sim cx a w A σ)
  (b:H6 pur call ao A σ=some (A',σ')) (s:∀a' u,Sim cx a' u A' σ'->Kept o.dst a a'->K a' u):wpOpIn (FW ro) n P ops Q i K a w:=by
 obtain⟨G,hi⟩:=c;obtain⟨F,D,k,t,j,q⟩:=m;unfold wpOpIn;rw[y];dsimp only;unfold H6 at b
 split at b
 ·rename_i e;rw[Wx hi f t e,if_pos rfl];refine ow z hi f k (pur:=pur) (A':=A') (σ':=σ') ?_ s
  rw[j] at b;exact b
 ·rename_i e;rw[Wx hi f t e,if_neg (by simp)]
  refine⟨λ_ _=>trivial,s _ _ ⟨G,?_⟩ (Nj _ _ _)⟩
  have p:ao.guard.isSome=true:=by
   cases r:ao.guard with
   |none=>rw[r] at e;simp[Iy] at e
   |some _=>rfl
  obtain⟨v,B,x⟩:=q p
  split at b
  ·cases b
   have h:ao.dst=o.dst:=by
    have:=Rp k;rw[j];exact this
   have d:ao.ex=[]:=by rw[j];exact v
   have g:ao.clr=[]:=by rw[j];exact B
   have l:BK fi o.dst=true:=by rw[<-Rp k];exact x
   have C:Dw A ao.wr [some Li]=JJ A o.dst Li:=by
    simp only[AOp.wr,d,g,h,Az];cases o.dst<;>rfl
   rw[C];exact hi.M9 (Ext.refl _ _ _) hi.base rfl o.dst (Eg f.kd f.nt l) rfl nJ (λ_ _=>trivial)
  ·cases b
 ·cases b
def Us(h:H6 pur call ao A σ=some (A',σ')):A'.length=A.length:=by
 unfold H6 at h
 split at h
 ·unfold Cb at h
  split at h
  ·split at h
   ·split at h
    ·cases h;exact Em ..
    ·split at h
     ·cases h;rfl
     ·cases h
   ·cases h
  ·cases h
 ·split at h
  ·cases h;exact Em ..
  ·cases h
 ·cases h
def Rm:∀(c:List AOp) {A A':Frm} {σ σ':Sto},Jj pur call c A σ=some (A',σ')->A'.length=A.length
 |[],A,A',σ,σ',h=>by cases h;rfl
 |ao::c,A,A',σ,σ',h=>by
  simp only[Jj] at h
  split at h
  ·rename_i A1 e d;rw[Rm c h,Us d]
  ·cases h
def oq{ro:Option Nat}{n:Nat}{Q:Exit->Act->World->Prop}(z:Iu P call)(C:Ih cx fi){e:List AOp}(D:e.length=ops.size)
  (j:∀(i:Nat) (o:Oper) (ao:AOp),ops[i]?=some o->e[i]?=some ao->BqS P pur fi ops o ao) {A':Frm} {σ':Sto} {S:Nat->Prop} (l:∀t,S t->∀(i:Nat) (o:Oper),ops[i]?=some o->o.dst≠some t) {u:Act} (x:∀a' f,Sim cx a' f A' σ'->(∀t,S t->at' a' t=at' u t)->Q .normal a' f) :
  ∀(d k:Nat),k+d=ops.size->∀(A:Frm) (σ:Sto),Jj pur call (e.drop k) A σ=some (A',σ')->∀a w,Sim cx a w A σ->(∀t,S t->at' a t=at' u t)->wpOpsIn (FW ro) n P ops Q (List.range' k d) a w:=by
 intro d
 induction d with
 |zero=>
  intro k B A σ b a w g q;rw[Co am] at b
  cases b;exact x a w g q
 |succ d y=>
  intro k B A σ b a w g q;have c:k<e.length:=am
  rw[BN c] at b;simp only[Jj] at b
  split at b
  ·rename_i A1 h v;rw[List.range'_succ,wpOpsIn_cons];have m:ops[k]?=some ops[k]:=Bp am
   exact Ur z C m (j k _ _ m (Af c)) g v (λa' f r p=>y (k+1) am A1 h b a' f r λt s=>(p t (l t s k _ m)).trans (q t s))
  ·cases b
def Inv.drew(hi:Inv cx G a w A σ):Inv cx G a w.drew A σ:=by
 have:=hi.step (λ_=>False) none undef (KQ _) (GV hi.base) rfl (λt p b=>.inl ⟨b,by simp,λ_ h=>h,λ_ _ _ _=>by simp,λ_ _=>⟨by simp,λh=>h⟩⟩) (λ_ cs c=>.inl ⟨c,λ_ h=>h⟩) hi.len hi.abl
 exact this
end
end Go.Abs
