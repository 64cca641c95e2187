/- A part of the proof: A39 A40 A41 A42 A43. -/
import Derived.Test.YtbkjmbhabkkoeaaGreatDoorKac
import Derived.Laws.StructEq
import Derived.ChangeKeysEq
import Derived.Test.YtbkjmbhabkkoeaaGreatDoorKae
import Derived.Maps.RangeRun
import Derived.Laws.Pointers

set_option linter.unusedVariables false
set_option linter.unusedSimpArgs false
namespace Go.Abs
open Go.RowKit
section
variable{P:Program}{pur:FuncId→Bool}{call:Caller}{fi:FI}{cx:Cx}{G:Gh}{a:Act}{w:World}{A A':Frm}{σ σ':Sto}
theorem XR(t:Nat)(ts:List Nat)(ys:List PV):eqL (t::ts) [] ys=none:=rfl
theorem XQ(t:Nat)(ts:List Nat)(xs:List PV):eqL (t::ts) xs []=none:=by cases xs<;>rfl
theorem I7{e:TypeId}{k:Nat}(h:KV P e=some k):P.plainKey e=true:=by
 unfold KV at h;unfold Program.plainKey
 split at h<;>simp_all
theorem ZL{e:TypeId}{k:Nat}(h:KV P e=some k){x y:PV}{b:Bool}(he:eqC k x y=some b){I:Imm}{v u:Value}(hx:Rep I w v x)(hy:Rep I w u y)(d:Nat):(Op.equalIn (d+1) e v u).run P w=.ok b w:=by
 unfold KV at h;cases x with
 |int k1 a1=>
  cases y with
  |int k2 a2=>
   simp only[eqC] at he
   split at he
   ·rename_i hc;obtain⟨rfl,rfl⟩:=hc;cases he;cases hx;cases hy
    split at h
    ·rename_i ki hu;exact run_equalIn_int w d e _ _ _ _ hu
    ·cases h
    ·cases h
    ·cases h
   ·cases he
  |_=>simp[eqC] at he
 |bool a1=>
  cases y with
  |bool a2=>
   simp only[eqC] at he
   split at he
   ·rename_i hc;subst hc;cases he;cases hx;cases hy
    split at h
    ·cases h
    ·rename_i hu;exact run_equalIn_bool w d e _ _ hu
    ·cases h
    ·cases h
   ·cases he
  |_=>simp[eqC] at he
 |str a1=>
  cases y with
  |str a2=>
   simp only[eqC] at he
   split at he
   ·rename_i hc;subst hc;cases he;cases hx with
    |str s1=>cases hy with
     |str s2=>
      split at h
      ·cases h
      ·cases h
      ·rename_i hu;rw[run_equalIn_string w d e _ _ hu,CZ,CZ]
      ·cases h
   ·cases he
  |_=>simp[eqC] at he
 |_=>simp[eqC] at he
theorem R8:∀(fs:List Field) (i:Nat) (ts:List Nat),JM P i fs=some ts→ts.length=fs.length∧∀(j:Nat) (f:Field),fs[j]?=some f→f.name ≠ "_" ∧ f.offset=i+j∧∃k,KV P f.type=some k∧ts[j]?=some k
 |[],i,ts,h=>by cases h;exact⟨rfl,fun j f h=>by simp at h⟩
 |f::fs,i,ts,h=>by
  rw[JM] at h
  split at h
  ·rename_i k ks hk hks
   split at h
   ·rename_i hc;cases h;rw[Ak,bne_iff_ne,beq_iff_eq] at hc;obtain⟨h1,h2⟩:=R8 fs (i+1) ks hks;refine⟨by simp[h1],fun j g hg=>?_⟩
    cases j with
    |zero=>simp at hg;subst hg;exact⟨hc.1,hc.2,k,hk,rfl⟩
    |succ j=>
     obtain⟨q1,q2,q3⟩:=h2 j g (by simpa using hg)
     exact⟨q1,by omega,by simpa using q3⟩
   ·cases h
  ·cases h
theorem QI(d:Nat){xs ys:List PV}{cx cy:Array Value}{I:Imm}(h1:cx.size=xs.length)(h2:cy.size=ys.length)(hx:∀(i:Nat) (p:PV),xs[i]?=some p→Rep I w (cx.getD i undef) p)(hy:∀(i:Nat) (p:PV),ys[i]?=some p→Rep I w (cy.getD i undef) p):
  ∀(fs:List Field) (i:Nat) (ts:List Nat) (b:Bool),JM P i fs=some ts→eqL ts (xs.drop i) (ys.drop i)=some b→(Op.eqFields (d+1) cx cy fs).run P w=.ok b w
 |[],i,ts,b,hf,he=>by
  cases hf;simp only[eqL] at he;cases he;simp[Op.eqFields]
 |f::fs,i,ts,b,hf,he=>by
  rw[JM] at hf
  split at hf
  ·rename_i k ks hk hks
   split at hf
   ·rename_i hc;cases hf;rw[Ak,bne_iff_ne,beq_iff_eq] at hc;rcases Cc i xs.length with hi | hi
    ·rcases Cc i ys.length with hj | hj
     ·rw[BB hi,BB hj,eqL] at he;have r1:=hx i _ (Ad hi);have r2:=hy i _ (Ad hj);have c1:cx[i]?=some (cx.getD i undef):=by rw[Ah,Az (by omega)];rfl
      have c2:cy[i]?=some (cy.getD i undef):=by rw[Ah,Az (by omega)];rfl
      generalize cx.getD i undef=u1 at r1 c1;generalize cy.getD i undef=u2 at r2 c2;have p1:=run_part_plain (w:=w) (I7 hk) c1;have p2:=run_part_plain (w:=w) (I7 hk) c2;rw[←hc.2] at p1 p2;cases hb:eqC k xs[i] ys[i] with
      |none=>rw[hb] at he;cases he
      |some b1=>
       have e1:=ZL (w:=w) hk hb r1 r2 d;rw[hb] at he;cases b1 with
       |true=>
        have ih:=QI d h1 h2 hx hy fs (i+1) ks b hks he;simp[Op.eqFields,hc.1,p1,p2,e1,ih]
       |false=>
        cases he;simp[Op.eqFields,hc.1,p1,p2,e1]
     ·rw[Cv hj,XQ] at he;cases he
    ·rw[Cv hi,XR] at he;cases he
   ·cases hf
  ·cases hf
theorem Nt(d:Nat){e:TypeId}{k:Nat}(hk:KV P e=some k){it:TypeInfo}(hit:P.info? e=some it)(hc1:P.cellsOf e=1){xs ys:List PV}{cx cy:Array Value}{I:Imm}(h1:cx.size=xs.length)(h2:cy.size=ys.length)(hx:∀(i:Nat) (p:PV),xs[i]?=some p→Rep I w (cx.getD i undef) p)(hy:∀(i:Nat) (p:PV),ys[i]?=some p→Rep I w (cy.getD i undef) p):
  ∀(n i:Nat) (b:Bool),eqL (List.replicate n k) (xs.drop i) (ys.drop i)=some b→(Op.eqItems (d+1) e 1 cx cy (List.range' i n)).run P w=.ok b w
 |0,i,b,he=>by
  simp only[List.replicate_zero,eqL] at he;cases he;simp[Op.eqItems]
 |n+1,i,b,he=>by
  rw[EY] at he;rcases Cc i xs.length with hi | hi
  ·rcases Cc i ys.length with hj | hj
   ·rw[BB hi,BB hj,eqL] at he;have r1:=hx i _ (Ad hi);have r2:=hy i _ (Ad hj);have c1:cx[i]?=some (cx.getD i undef):=by rw[Ah,Az (by omega)];rfl
    have c2:cy[i]?=some (cy.getD i undef):=by rw[Ah,Az (by omega)];rfl
    generalize cx.getD i undef=u1 at r1 c1;generalize cy.getD i undef=u2 at r2 c2;have p1:=run_part_plain (w:=w) (I7 hk) c1;have p2:=run_part_plain (w:=w) (I7 hk) c2;rw[Eo];cases hb:eqC k xs[i] ys[i] with
    |none=>rw[hb] at he;cases he
    |some b1=>
     have e1:=ZL (w:=w) hk hb r1 r2 d;rw[hb] at he;cases b1 with
     |true=>
      have ih:=Nt d hk hit hc1 h1 h2 hx hy n (i+1) b he;simp[Op.eqItems,p1,p2,e1,ih]
     |false=>
      cases he;simp[Op.eqItems,p1,p2,e1]
   ·rw[Cv hj,XQ] at he;cases he
  ·rw[Cv hi,XR] at he;cases he
theorem Pg{t:TypeId}{ts:List Nat}(h:LM P t=some ts){xs ys:List PV}{cx cy:Array Value}{I:Imm}(h1:cx.size=xs.length)(h2:cy.size=ys.length)(hx:∀(i:Nat) (p:PV),xs[i]?=some p→Rep I w (cx.getD i undef) p)(hy:∀(i:Nat) (p:PV),ys[i]?=some p→Rep I w (cy.getD i undef) p)
  {b:Bool} (he:eqL ts xs ys=some b):(Op.equalIn 10000 t (.agg cx) (.agg cy)).run P w=.ok b w∧P.eqGuardType P.depth t=false:=by
 unfold LM at h
 split at h
 ·cases h
 rename_i hs;rw[Bool.not_eq_true,Bool.or_eq_false_iff] at hs;refine⟨?_,hs.2⟩
 split at h
 ·rename_i fs hu;have hfo:P.fieldsOf t=fs:=by simp[Program.fieldsOf,hu]
  rw[run_equalIn_struct w 9999 t cx cy (by rw[hfo];exact hu) hs.1,hfo]
  exact QI 9998 h1 h2 hx hy fs.toList 0 ts b h (by simpa using he)
 ·rename_i n e hu;obtain⟨k,hk,rfl⟩:=Ac.1 h
  split at hk
  ·rename_i hc
   obtain⟨it,hit⟩:=info_of_underlying (show P.underlying e=some ((P.underlying e).getD default) by
    unfold KV at hk
    split at hk<;>simp_all)
   rw[run_equalIn_array w 9999 cx cy hu hit,hc,DU];exact Nt 9998 hk hit hc h1 h2 hx hy n 0 b (by simpa using he)
  ·cases hk
 ·cases h
theorem T9:∀{cs:List PV} {l:List (IntKind×Int)},Nc cs=some l→cs=l.map fun x=>PV.int x.1 x.2
 |[],l,h=>by cases h;rfl
 |c::cs,l,h=>by
  cases hl:Nc cs with
  |none=>simp[Nc,hl] at h
  |some l'=>
   cases c with
   |int k n=>
    simp only[Nc,hl] at h;cases h;rw[T9 hl];rfl
   |_=>simp[Nc] at h
theorem NR{d:KD}{p:PV}{x:Kx}(h:MJ d p=some x){v:Value}{I:Imm}{bl:Bl}(hr:Bu I bl w v p):v=x.val∧IB d x=true:=by
 cases d with
 |i k0=>
  cases p with
  |int k n=>
   simp only[MJ] at h
   split at h
   ·rename_i e;cases h;subst e;exact⟨hr.Db,by simp[IB]⟩
   ·cases h
  |_=>cases h
 |s=>
  cases p with
  |str l=>
   cases h;obtain⟨s,rfl,rfl⟩:=hr.Gz;cases s;exact⟨rfl,rfl⟩
  |_=>cases h
 |a ks=>
  cases p with
  |agg cs=>
   simp only[MJ] at h
   split at h
   ·rename_i l hl
    split at h
    case isFalse=>cases h
    rename_i hn;cases h;have e:=T9 hl;obtain⟨vs,rfl,h1,h2⟩:=hr.Qq;refine⟨?_,by simp only[IB,beq_iff_eq];exact hn⟩
    show Value.agg vs=.agg _;congr 1;apply BZ.1;refine BH fun i=>?_
    rw[Aw,Af];rw[e] at h1 h2;rw[Am] at h1;rcases Cc i l.length with hi | hi
    ·have:=h2 i (.int l[i].1 l[i].2) (by rw[Af,Ad hi];rfl)
     rw[Ah,Az (by omega),CB] at this
     rw[Az (by omega),Ad hi]
     have hh:=(Bu.one (bl:=Bl.nil) (.inl this)).Db;simp only[Ay];rw[hh]
    ·rw[Dx (by omega),AC hi];rfl
   ·cases h
  |_=>cases h
theorem Qp{d:KD}{p:PV}{x:Kx}(h:MJ d p=some x):p.free=true:=by
 cases d<;>cases p<;>first | rfl | cases h
theorem J4:∀{ks:List Kx} {x:Kx} {j:Nat},FT x ks=some j→ks[j]?=some x
 |[],x,j,h=>by cases h
 |k::ks,x,j,h=>by
  rw[FT] at h
  split at h
  ·rename_i e;cases h;rw[e];rfl
  ·obtain⟨i,hi,rfl⟩:=Ac.1 h;simpa using J4 hi
theorem XT:∀(l l':List (IntKind×Int)),l.map (·.1)=l'.map (·.1)→eqL (List.replicate l.length 0) (l.map fun x=>PV.int x.1 x.2) (l'.map fun x=>PV.int x.1 x.2)=some (decide (l'=l))
 |[],[],_=>by simp[eqL]
 |[],_::_,h=>by simp at h
 |_::_,[],h=>by simp at h
 |(k,a)::l,(k',b)::l',h=>by
  simp only[AR,List.cons.injEq] at h;obtain⟨rfl,h⟩:=h;have ih:=XT l l' h;simp only[BI,EY,AR,eqL,eqC];rw[if_pos ⟨trivial,trivial⟩];by_cases hab:a=b
  ·subst hab;simp[ih]
  ·rw[show(a==b)=false from beq_false_of_ne hab]
   simp[Ne.symm hab]
theorem R5:∀(fs:List Field) (i:Nat) (ts:List Nat) (ks:List IntKind),JM P i fs=some ts→Vm P fs=some ks→ts=List.replicate ks.length 0
 |[],i,ts,ks,h,h'=>by cases h;cases h';rfl
 |f::fs,i,ts,ks,h,h'=>by
  rw[JM] at h
  split at h
  ·rename_i k us hk hus
   split at h
   ·cases h;unfold Vm at h'
    split at h'
    ·rename_i ki kr hu hkr;cases h';rw[R5 fs (i+1) us kr hus hkr,BI,EY];have:KV P f.type=some 0:=by unfold KV;rw[hu]
     rw[this] at hk;cases hk;rfl
    ·cases h'
   ·cases h
  ·cases h
theorem Vo{kt:TypeId}{ks:List IntKind}(h:MK P kt=some (.a ks)):∃fs,P.underlying kt=some (.struct fs)∧LM P kt=some (List.replicate ks.length 0):=by
 unfold MK at h
 split at h
 ·cases h
 ·cases h
 ·rename_i fs hu
  split at h
  ·rename_i ts ks' ht hks;cases h;refine⟨fs,hu,?_⟩
   rw[ht];unfold LM at ht
   split at ht
   ·cases ht
   rw[hu] at ht;rw[R5 _ 0 ts ks ht hks]
  ·cases h
 ·cases h
theorem Xp{kt:TypeId}{d:KD}(h:MK P kt=some d):(∃k,d=.i k∧P.underlying kt=some (.int k))∨(d=.s∧P.underlying kt=some .string)∨∃n,d=.a n:=by
 unfold MK at h
 split at h
 ·rename_i k hu;cases h;exact .inl ⟨k,rfl,hu⟩
 ·rename_i hu;cases h;exact .inr (.inl ⟨rfl,hu⟩)
 ·split at h
  ·cases h;exact .inr (.inr ⟨_,rfl⟩)
  ·cases h
 ·cases h
theorem Ws{I:Imm}(l:List (IntKind×Int)):∀(i:Nat) (p:PV),(l.map fun x=>PV.int x.1 x.2)[i]?=some p→Rep I w ((l.map fun x=>Value.int x.1 x.2).toArray.getD i undef) p:=by
 intro i p hp;rw[Af] at hp;obtain⟨x,hx,rfl⟩:=Ac.1 hp;rw[Ah,Cz,Af,hx];exact .int _ _
theorem iw{kt:TypeId}{n:List IntKind}(h:MK P kt=some (.a n)){l l':List (IntKind×Int)}(hl:l.map (·.1)=n)(hl':l'.map (·.1)=n):(Op.equal kt (Kx.a l).val (Kx.a l').val).run P w=.ok (decide (Kx.a l'=Kx.a l)) w:=by
 obtain⟨fs,hu,ht⟩:=Vo h;have hs:l.map (·.1)=l'.map (·.1):=hl.trans hl'.symm;have hn:n.length=l.length:=by rw[←hl];simp
 have:=(Pg (w:=w) (I:=fun _ _=>False) ht (xs:=l.map fun x=>PV.int x.1 x.2) (ys:=l'.map fun x=>PV.int x.1 x.2) (cx:=(l.map fun x=>Value.int x.1 x.2).toArray) (cy:=(l'.map fun x=>Value.int x.1 x.2).toArray)
  (by simp) (by simp) (Ws l) (Ws l') (by rw[hn];exact XT l l' hs)).1
 have e:decide (Kx.a l'=Kx.a l)=decide (l'=l):=by
  by_cases hh:l'=l
  ·subst hh;simp
  ·simp[hh]
 rw[e];exact this
theorem KW(em:Bool)(d:Nat)(cs:Array Value):∀(fs:List Field) (i:Nat) (ts:List Nat),JM P i fs=some ts→i+fs.length≤cs.size→
  (forIn fs PUnit.unit (fun f _=>if f.name ≠ "_" then(do
   let x ← part f.type cs f.offset
   Instr.checkKey em (d+1) f.type x
   pure (ForInStep.yield PUnit.unit)) else pure (ForInStep.yield PUnit.unit)):Sem PUnit).run P w=.ok PUnit.unit w
 |[],i,ts,_,_=>by simp
 |f::fs,i,ts,h,hl=>by
  rw[JM] at h
  split at h
  ·rename_i k ks hk hks
   split at h
   ·rename_i hc;rw[Ak,bne_iff_ne,beq_iff_eq] at hc;simp only[BI] at hl;have ih:=KW em d cs fs (i+1) ks hks (by omega)
    have p1:=run_part_plain (w:=w) (I7 hk) (show cs[f.offset]?=some cs[f.offset] from Az (by omega))
    have p2:(Instr.checkKey em (d+1) f.type cs[f.offset]).run P w=.ok () w:=by
     unfold KV at hk
     split at hk
     ·rename_i hu;simp[Instr.checkKey,underlying,hu]
     ·rename_i hu;simp[Instr.checkKey,underlying,hu]
     ·rename_i hu;simp[Instr.checkKey,underlying,hu]
     ·cases hk
    simp only[List.forIn_cons,Sem.run_bind,hc.1,ne_eq,not_false_eq_true,if_true,Result.andThen_ok,p1,p2,Sem.run_pure];exact ih
   ·cases h
  ·cases h
theorem Ju(em:Bool){kt:TypeId}{d:KD}(h:MK P kt=some d){x:Kx}(hx:IB d x=true):(Instr.checkKey em 10000 kt x.val).run P w=.ok () w:=by
 rcases Xp h with⟨k,rfl,hu⟩ | ⟨rfl,hu⟩ | ⟨n,rfl⟩
 ·exact run_checkKey hu (.inl ⟨k,rfl⟩) _
 ·exact run_checkKey hu (.inr rfl) _
 ·obtain⟨fs,hu,ht⟩:=Vo h;cases x with
  |a l=>
   simp only[IB,beq_iff_eq] at hx;have hn:n.length=l.length:=by rw[←hx];simp
   unfold LM at ht
   split at ht
   ·cases ht
   rw[hu] at ht;dsimp only at ht;have hlen:=(R8 fs.toList 0 _ ht).1;rw[DL] at hlen;show(Instr.checkKey em (9998+1+1) kt (.agg (l.map fun x=>Value.int x.1 x.2).toArray)).run P w=_
   rw[Instr.checkKey];simp only[Sem.run_bind,run_underlying hu,Result.andThen_ok];rw[←Array.forIn_toList]
   have h9:=KW (w:=w) em 9998 (l.map fun x=>Value.int x.1 x.2).toArray fs.toList 0 _ ht (by
    rw[CL,Am];omega)
   rw[h9,Result.andThen_ok,Sem.run_pure]
  |_=>simp[IB] at hx
theorem Ni{desc:TypeDesc}{d:KD}(hd:(∃k,desc=.int k∧d=.i k)∨desc=.string∧d=.s){x:Kx}(hx:IB d x=true):∀(es:List MapEntry) (ks:List Kx) (s:Nat),es.map (·.key)=ks.map Kx.val→ks.all (IB d)=true→
  Instr.findNow desc x.val es s=some ((FT x ks).bind fun j=>(es[j]?).map fun e=>(s+j,e.val))
 |[],[],s,_,_=>rfl
 |[],_::_,s,h,_=>by simp at h
 |_::_,[],s,h,_=>by simp at h
 |e::es,k::ks,s,h,hs=>by
  simp only[AR,List.cons.injEq] at h;simp only[Bi,Ak] at hs;have ih:=Ni hd hx es ks (s+1) h.2 hs.2
  have key:Instr.sameNow desc x.val e.key=some (decide (k=x)):=by
   rw[h.1];rcases hd with⟨k0,rfl,rfl⟩ | ⟨rfl,rfl⟩
   ·cases x with
    |i k1 a=>
     cases k with
     |i k2 b=>
      have hk1:k1=k0:=by simpa [IB] using hx
      have hk2:k2=k0:=by simpa [IB] using hs.1
      subst hk1;subst hk2;simp only[Kx.val,Instr.sameNow,if_true];by_cases hab:a=b
      ·subst hab;simp
      ·simp[hab,Ne.symm hab]
     |_=>simp[IB] at hs
    |_=>simp[IB] at hx
   ·cases x with
    |s a=>
     cases k with
     |s b=>
      simp only[Kx.val,Instr.sameNow,beq_toListBytes,CZ];by_cases hab:a=b
      ·subst hab;simp
      ·simp[hab,Ne.symm hab]
     |_=>simp[IB] at hs
    |_=>simp[IB] at hx
  rw[Instr.findNow,key,FT];by_cases hkx:k=x
  ·simp[hkx]
  ·rw[if_neg hkx,decide_eq_false hkx];dsimp only;rw[ih];cases FT x ks with
   |none=>rfl
   |some j=>simp[Nat.add_comm 1 j,CU]
theorem Pf{kt:TypeId}{n:List IntKind}(h:MK P kt=some (.a n)){l:List (IntKind×Int)}(hl:l.map (·.1)=n):∀(es:List MapEntry) (ks:List Kx) (s:Nat),es.map (·.key)=ks.map Kx.val→ks.all (IB (.a n))=true→
  (Instr.findAsking kt (Kx.a l).val es s).run P w=.ok ((FT (.a l) ks).bind fun j=>(es[j]?).map fun e=>(s+j,e.val)) w
 |[],[],s,_,_=>by simp[Instr.findAsking,FT]
 |[],_::_,s,h,_=>by simp at h
 |_::_,[],s,h,_=>by simp at h
 |e::es,k::ks,s,he,hs=>by
  simp only[AR,List.cons.injEq] at he;simp only[Bi,Ak] at hs;have ih:=Pf h hl es ks (s+1) he.2 hs.2;cases k with
  |a l'=>
   have hk:l'.map (·.1)=n:=by simpa [IB] using hs.1
   have e1:=iw (w:=w) h hl hk;rw[Instr.findAsking,FT];simp only[Sem.run_bind,he.1,e1,Result.andThen_ok];by_cases hkx:Kx.a l'=Kx.a l
   ·simp[hkx]
   ·rw[if_neg hkx,decide_eq_false hkx];simp only[Bool.false_eq_true,if_false];rw[ih];cases FT (.a l) ks with
    |none=>rfl
    |some j=>simp[Nat.add_comm 1 j,CU]
  |_=>simp[IB] at hs
theorem Kh{kt:TypeId}{d:KD}(h:MK P kt=some d){x:Kx}(hx:IB d x=true){es:List MapEntry}{ks:List Kx}(he:es.map (·.key)=ks.map Kx.val)(hs:ks.all (IB d)=true):
  (Instr.findKey kt x.val es).run P w=.ok ((FT x ks).bind fun j=>(es[j]?).map fun e=>(j,e.val)) w:=by
 rcases Xp h with⟨k,rfl,hu⟩ | ⟨rfl,hu⟩ | ⟨n,rfl⟩
 ·have:=Ni (.inl ⟨k,rfl,rfl⟩) hx es ks 0 he hs;simp only[Bc] at this;simp[Instr.findKey,underlying,hu,this]
 ·have:=Ni (.inr ⟨rfl,rfl⟩) hx es ks 0 he hs;simp only[Bc] at this;simp[Instr.findKey,underlying,hu,this]
 ·obtain⟨fs,hu,ht⟩:=Vo h;cases x with
  |a l=>
   have hx':l.map (·.1)=n:=by simpa [IB] using hx
   have ha:=Pf (w:=w) h hx' es ks 0 he hs;simp only[Bc] at ha;cases es with
   |nil=>
    cases ks with
    |nil=>simp[Instr.findKey,underlying,hu,Instr.findNow,FT]
    |cons _ _=>simp at he
   |cons e es=>
    have hn:Instr.findNow (.struct fs) (Kx.a l).val (e::es) 0=none:=by
     rw[Instr.findNow];simp[Instr.sameNow]
    simp[Instr.findKey,underlying,hu,hn,ha]
  |_=>simp[IB] at hx
theorem Tv{x y:PV}(h:UA x y=true):x=y:=by
 cases x<;>cases y<;>simp_all [UA]
theorem Tu:∀{xs ys:List PV},Oo xs ys=true→xs=ys
 |[],[],_=>rfl
 |[],_::_,h=>by simp[Oo] at h
 |_::_,[],h=>by simp[Oo] at h
 |x::xs,y::ys,h=>by
  simp only[Oo,Ak] at h;rw[Tv h.1,Tu h.2]
theorem VO{x y:PV}(h:O9 x y=true):x=y:=by
 unfold O9 at h
 split at h
 ·rw[Tu h]
 ·exact Tv h
theorem MM(m:Nat):∀l:List (IntKind×Int),(((l.map fun x=>Value.int x.1 x.2)).zip (l.map fun x=>Value.int x.1 x.2)).all (fun(x,y)=>Instr.sameBits m x y)=true
 |[]=>rfl
 |x::l=>by
  simp only[AR,List.zip_cons_cons,Bi,MM m l,Bool.and_true];cases m<;>simp[Instr.sameBits]
theorem Ld(x:Kx):(Instr.keyThatStays x.val x.val).run P w=.ok x.val w:=by
 have:Instr.sameBits 10000 x.val x.val=true:=by
  cases x with
  |i k n=>simp[Kx.val,Instr.sameBits]
  |s l=>simp[Kx.val,Instr.sameBits,beq_toListBytes]
  |a l=>
   show Instr.sameBits (9999+1) (.agg _) (.agg _)=true;rw[Instr.sameBits];simp only[beq_self_eq_true,Bool.true_and];exact MM 9999 l
 simp[Instr.keyThatStays,this]
end
end Go.Abs

namespace Go.Abs
open Go.RowKit
section
variable{P:Program}{pur:FuncId→Bool}{call:Caller}{fi:FI}{cx:Cx}{G:Gh}{a:Act}{w:World}{A A':Frm}{σ σ':Sto}
set_option linter.unusedVariables false
set_option linter.unusedSimpArgs false
theorem ZH(hi:Inv cx G a w A σ)(hkd:∀t,cx.kd t=fi.kind t)(hnt:cx.nt=fi.nt){o:Oper}{ne:Bool}{op:BinOp}(hop:op=if ne then .neq else .eql){t yt:TypeId}{x y:Operand}(ho:o.op=.binOp op t x y yt){ts:List Nat}(ht:LM P t=some ts)
  {az:List Ct} (hc:Aq fi [x,y]=some az) (hd:BA fi o.dst=true) (hrun:BV pur call { dst:=o.dst,k:=.p (.aeq ne ts),args:=az } A σ=some (A',σ')):Gives P cx o a w A' σ':=by
 refine F3 hi hkd hnt hd hrun fun vs rs he hs=>?_
 match vs,hs with
 |[.agg xs,.agg ys],hs=>
  simp only[AJ] at hs;obtain⟨b,hb,rfl⟩:=Ac.1 hs;obtain⟨x',x2,y1,y2,e,rfl,hy1,hy2,hp,hq⟩:=Us hc he;cases e;obtain⟨c1,e1,l1,r1⟩:=(Ba hi hkd hy1 hp rfl).Qq;obtain⟨c2,e2,l2,r2⟩:=(Ba hi hkd hy2 hq rfl).Qq;obtain⟨h1,h2⟩:=Pg (w:=w) ht l1 l2 r1 r2 hb;refine⟨_,.bool (b != ne),rfl,rfl,?_,.one (.inl (.bool _)),fun _=>trivial⟩
  subst hop;cases ne with
  |true=>simp[execOp,ho,e1,e2,run_eqGuard_agg w _ t x y c1 c2 h2,run_neq_struct,h1]
  |false=>simp[execOp,ho,e1,e2,run_eqGuard_agg w _ t x y c1 c2 h2,run_eql_struct,h1]
theorem Hg{t e:TypeId}{n:Nat}(ht:P.underlying t=some (.array n e)){size:Nat}{ag:Bool}(hsz:Ci P e=some (size,ag)){k:IntKind}{z:Int}(hz:0≤z∧z<n)(b off:Nat):
  (Instr.indexAt t (.pointer (some ⟨b,off,none⟩)) (.int k z)).run P w=.ok (.pointer (some ⟨b,off+z.toNat * size,none⟩)) w:=by
 have hs':=run_sizeOf (P:=P) (w:=w) hsz;simp[Instr.indexAt,asIntOf,underlying,ht,hz,hs',Instr.sureAddr,Fh]
theorem oh(hi:Inv cx G a w A σ)(hkd:∀t,cx.kd t=fi.kind t)(hnt:cx.nt=fi.nt){o:Oper}{t e:TypeId}{x i:Operand}(ho:o.op=.indexAddr t x i){n:Nat}(ht:P.underlying t=some (.array n e)){size:Nat}{ag:Bool}(hsz:Ci P e=some (size,ag))
  (hnl:∀p,∀d off,p=PV.lref d off→∀y,EK fi x=some y→BJ A [y]≠some [p])
  {az:List Ct} (hc:Aq fi [x,i]=some az) (hd:BA fi o.dst=true) (hrun:BV pur call { dst:=o.dst,k:=.p (.ixa n size ag),args:=az } A σ=some (A',σ')):Gives P cx o a w A' σ':=by
 refine F3 hi hkd hnt hd hrun fun vs rs he hs=>?_
 obtain⟨p,q,r,rfl,hv,rfl⟩:=Oq (V:=ixV n size ag) (k:=.ixa n size ag) (fun _ _=>rfl) rfl (fun _=>rfl) (fun _ _ _ _=>rfl) vs rs hs
 obtain⟨x',x2,y1,y2,e',rfl,hy1,hy2,hp,hq⟩:=Us hc he;cases e';cases q with
 |int k z=>
  have ei:=(Ba hi hkd hy2 hq rfl).Db;simp only[ixV] at hv
  split at hv
  case isFalse=>cases hv
  rename_i hz;cases p with
  |vptr v=>
   obtain⟨b,off,cv,ev,h1,h2,h3⟩:=(Ba hi hkd hy1 hp rfl).JR;simp only[faV] at hv;obtain⟨u,hu,rfl⟩:=Ac.1 hv;have hsc:=Mf hu;refine⟨_,.pointer (some ⟨b,off+z.toNat * size,none⟩),rfl,rfl,by simp[execOp,ho,ev,ei,Hg ht hsz hz],?_,fun _=>trivial⟩
   refine .one (.inl (.vptr (fun j=>cv (z.toNat * size+j)) (fun j q hq=>?_) (fun j q hq=>?_) (fun j q hq=>?_)))
   ·have:=h1 _ _ (hsc j q hq);rw[←CU] at this;exact this
   ·have:=h2 _ _ (hsc j q hq);rw[←CU] at this;exact this
   ·exact h3 _ _ (hsc j q hq)
  |ref id off=>
   obtain⟨b,h1,ev⟩:=(Ba hi hkd hy1 hp rfl).Ho;simp only[faV] at hv;cases hv;exact⟨_,.pointer (some ⟨b,off+z.toNat * size,none⟩),rfl,rfl,by simp[execOp,ho,ev,ei,Hg ht hsz hz],.one (.inr (.ref h1)),fun _=>trivial⟩
  |aptr id gen sz i' off=>
   obtain⟨b,base,n',h1,ev⟩:=(Ba hi hkd hy1 hp rfl).Ir;simp only[faV] at hv;cases hv;exact⟨_,.pointer (some ⟨b,base+i' * sz+(off+z.toNat * size),none⟩),rfl,rfl,by simp[execOp,ho,ev,ei,Hg ht hsz hz,CU],.one (.inr (.aptr h1)),fun _=>trivial⟩
  |lref d off=>exact absurd hp (hnl _ d off rfl y1 hy1)
  |_=>simp[faV] at hv
 |_=>simp[ixV] at hv
theorem og(hi:Inv cx G a w A σ)(hkd:∀t,cx.kd t=fi.kind t)(hnt:cx.nt=fi.nt)(hal:∀t,cx.al t=fi.alias t){o:Oper}{t e:TypeId}{d u:Nat}{i:Operand}(ho:o.op=.indexAddr t (.tmp d) i)(hou:o.dst=some u)
  {n:Nat} (ht:P.underlying t=some (.array n e)) {size:Nat} {ag:Bool} (hsz:Ci P e=some (size,ag)) (hk:cx.kd d=.box) (hau:fi.alias u=some d) (hd:CJ fi u=true)
  {az:List Ct} (hc:Aq fi [i]=some az) (hrun:BV pur call { dst:=some u,k:=.p (.ixl d n size),args:=.slot d::az } A σ=some (A',σ')):Gives P cx o a w A' σ':=by
 obtain⟨vs,rs,he,hs,rfl,hA⟩:=bu hrun;obtain⟨y,zs,rfl,hy,hz⟩:=AL hc;cases hz;obtain⟨c,qs,rfl,hp,hq⟩:=Au he;obtain⟨q,qs,rfl,hp2,hq⟩:=Au hq;cases hq;cases q with
 |int k z=>
  simp only[AJ] at hs
  split at hs
  case isFalse=>cases hs
  rename_i hz;have ei:=(Ba hi hkd hy hp2 rfl).Db;obtain⟨hg,_⟩:=Dr he;obtain⟨b,hb,hcell⟩:=(Dz hk).1 (hi.slot d c hg);rw[hA _ (Option.some.inj hs).symm];have hev:a.eval (.tmp d)=.pointer (some ⟨b,0,none⟩):=hb;refine .inl ⟨.pointer (some ⟨b,z.toNat * size,none⟩),w,?_,G,?_⟩
  ·have:=Hg (P:=P) (w:=w) ht hsz (k:=k) hz b 0;rw[Bc] at this;simp[execOp,ho,hev,ei,this]
  ·rw[hou];exact hi.UV (En hkd hnt hd) hk (by rw[hal];exact hau) hb
 |_=>simp[AJ] at hs
theorem gB(hi:Inv cx G a w A σ)(hkd:∀t,cx.kd t=fi.kind t)(hnt:cx.nt=fi.nt)(hal:∀t,cx.al t=fi.alias t){o:Oper}{t e:TypeId}{s d u:Nat}{i:Operand}(ho:o.op=.indexAddr t (.tmp s) i)(hou:o.dst=some u)
  {n:Nat} (ht:P.underlying t=some (.array n e)) {size:Nat} {ag:Bool} (hsz:Ci P e=some (size,ag))
  (has:fi.alias s=some d) (hau:fi.alias u=some d) (hd:CJ fi u=true) {off:Nat} {d':Nat} (hgs:A.get s=some (.lref d' off))
  {az:List Ct} (hc:Aq fi [i]=some az) (hrun:BV pur call { dst:=some u,k:=.p (.ixa n size ag),args:=.slot s::az } A σ=some (A',σ')):Gives P cx o a w A' σ':=by
 obtain⟨vs,rs,he,hs,rfl,hA⟩:=bu hrun;obtain⟨y,zs,rfl,hy,hz⟩:=AL hc;cases hz;obtain⟨c,qs,rfl,hp,hq⟩:=Au he;obtain⟨q,qs,rfl,hp2,hq⟩:=Au hq;cases hq;obtain⟨hg,_⟩:=Dr he;rw[hgs] at hg;cases hg;cases q with
 |int k z=>
  simp only[AJ,ixV] at hs
  split at hs
  case isFalse=>cases hs
  rename_i hz;simp only[faV] at hs;have ei:=(Ba hi hkd hy hp2 rfl).Db;rw[hA _ (Option.some.inj hs).symm]
  have hdd:d'=d:=by
   have:=(Mr hi hgs).2.1;rw[hal,has] at this;exact(Option.some.inj this).symm
  subst hdd;obtain⟨hk,b,hb,hss⟩:=JX hi hgs;have hev:a.eval (.tmp s)=.pointer (some ⟨b,off,none⟩):=hss;refine .inl ⟨.pointer (some ⟨b,off+z.toNat * size,none⟩),w,?_,G,?_⟩
  ·simp[execOp,ho,hev,ei,Hg (P:=P) (w:=w) ht hsz (k:=k) hz b off]
  ·rw[hou];exact hi.UV (En hkd hnt hd) hk (by rw[hal];exact hau) hb
 |_=>simp[AJ,ixV] at hs
theorem Jz(hi:Inv cx G a w A σ){id:Nat}{d:KD}{z:PV}{ks:List Kx}{vs:List PV}(h:mapOf σ[id]?=some (d,z,ks,vs)):id<σ.length∧∃b,G.bl.l[id]?=some b∧MW G w b id d ks vs:=by
 unfold mapOf at h
 split at h
 ·rename_i d' z' ks' vs' hσ;cases h;obtain⟨b,h1,h2⟩:=hi.obj id _ hσ;refine⟨(Ab.1 hσ).1,b,h1,?_⟩
  rcases h2 with h2 | ⟨t,e,l,h,_⟩ | h | ⟨_,_,_,h,_⟩ | ⟨d',z',ks',vs',h,h2⟩ | ⟨_,_,_,h,_⟩
  ·obtain⟨_,_,cs,_,_,_,h⟩:=h2;rcases h 0 _ rfl with⟨h,_⟩ | ⟨h,_⟩
   ·exact absurd h.free (by simp[PV.free])
   ·cases h
  ·cases h
  ·cases h
  ·cases h
  ·cases h;exact h2
  ·cases h
 ·cases h
theorem MW.keys{ks:List Kx}{vs:List PV}{es:Array MapEntry}(hn:es.size=ks.length)(h:∀(j:Nat) (e:MapEntry),es[j]?=some e→e.born=j∧(ks[j]?).map Kx.val=some e.key∧∀p,vs[j]?=some p→Bu G.I G.bl w e.val p):es.toList.map (·.key)=ks.map Kx.val:=by
 refine BH fun i=>?_
 rw[Af,Af,Aw];rcases Cc i es.size with hi | hi
 ·rw[(h i _ (Az hi)).2.1,Az hi];rfl
 ·rw[Dx hi,AC (by omega)];rfl
def gM(w:World)(r:Nat)(o:Obj):World:={ w with heap:=w.heap.setIfInBounds r o }
theorem QG(w:World)(r:Nat)(o:Obj):Kc r w (gM w r o):=
 ⟨fun k hk=>by show(w.heap.setIfInBounds r o)[k]?=_;rw[Da (fun e=>hk e.symm)],by simp[gM],rfl,rfl,rfl⟩
theorem ZK{r:Nat}{o o':Obj}(h:w.heap[r]?=some o'):(gM w r o).heap[r]?=some o:=by
 have hrl:r<w.heap.size:=(Bd.1 h).1;show(w.heap.setIfInBounds r o)[r]?=_;simp[hrl]
theorem LA(hi:Inv cx G a w A σ){id b:Nat}{d:KD}{ks:List Kx}{vs:List PV}(z:PV)(hb:G.bl.l[id]?=some b)(hm:MW G w b id d ks vs)(hid:id<σ.length){es':Array MapEntry}{ks':List Kx}{vs':List PV}(hkd':ks'.all (IB d)=true)(hl:vs'.length=ks'.length)(hn:es'.size=ks'.length)
  (h:∀(j:Nat) (e:MapEntry),es'[j]?=some e→e.born=j∧(ks'[j]?).map Kx.val=some e.key∧∀p,vs'[j]?=some p→Bu G.I G.bl w e.val p):Inv cx G a (gM w b (.map es' es'.size)) A (σ.set id [.mapo d z ks' vs']):=by
 obtain⟨hω,hI,_,es,hes,_,_⟩:=hm;have hob:=QG w b (.map es' es'.size);have hext:=MB (X:=fun tg=>tg=.obj id none) hob hω hI rfl
 have hbase:=Np hi.base hob hω hI
 exact hi.Mo (X:=fun tg=>tg=.obj id none) (T:=fun _=>False) none undef (fun _ h=>by cases h) hid
  ⟨b,hb,.inr (.inr (.inr (.inr (.inl ⟨d,z,ks',vs',rfl,hω,hI,⟨hl,hkd'⟩,es',ZK hes,hn,fun j e he=>⟨(h j e he).1,(h j e he).2.1,fun p hp=>((h j e he).2.2 p hp).mono hext.I hext.same hext.bl⟩⟩))))⟩
  hext hbase rfl (fun tg h=>.inl ⟨none,h⟩) (fun _ h=>h.elim) rfl (fun t p hp=>.inl ⟨fun h=>h,by simp,hp⟩)
theorem VP{e:TypeId}{z:PV}(hz:EP P e=some z)(I:Imm):∃zv,(∀u:World,(zeroValue e).run P u=.ok zv u)∧(∀u:World,Rep I u zv z)∧z.free=true:=by
 unfold EP at hz
 split at hz
 ·rename_i it hit;obtain⟨zv,hzv,hzp⟩:=AO.1 hz;exact⟨zv,fun u=>by simp[zeroValue,typeInfo,hit,hzv],fun u=>EN hzp,Nh hzp⟩
 ·cases hz
theorem Mi{ao:AOp}{d:Option Nat}{p:PV}(hd:ao.dst=d)(hex:ao.ex=[])(hcl:ao.clr=[])(h1:([some p]:List (Option PV)).length=ao.dst.toList.length+ao.ex.length→A'=CV A ao.wr ([some p]++ao.clr.map fun _=>none))
  (h2:([some p]:List (Option PV)).length≠ao.dst.toList.length+ao.ex.length→A'=A∧ao.dst=none):A'=GA A d p:=by
 subst hd;cases hdd:ao.dst with
 |none=>exact(h2 (by rw[hdd,hex];simp)).1
 |some t=>
  rw[h1 (by rw[hdd,hex];simp)]
  simp[AOp.wr,hdd,hex,hcl,CV,GA]
theorem nT(hi:Inv cx G a w A σ)(hkd:∀t,cx.kd t=fi.kind t)(hnt:cx.nt=fi.nt){o:Oper}{t:TypeId}(ho:o.op=.makeMap t none){d:Nat}(hod:o.dst=some d)(hd:CJ fi d=true){z:PV}{kd:KD}
  (hrun:BV pur call { dst:=some d,k:=.w (.mkM z kd),args:=[] } A σ=some (A',σ')):Gives P cx o a w A' σ':=by
 obtain⟨vs,rs,he,hs,hA,_⟩:=Hl hrun;cases he;simp only[sem,Cq] at hs;cases hs;rw[hA rfl];obtain⟨hdl,hk⟩:=En hkd hnt hd;refine .inl ⟨.map (some w.heap.size),w.alloc (.map #[] 0),by simp[execOp,ho,Instr.makeMap],?_⟩
 rw[hod]
 let G1:=G.Jr w.heap.size (fun _=>False) (some (.obj σ.length none))
 let G':Gh:={ G1 with bl:=⟨G.bl.l++[w.heap.size],G.bl.ab⟩ }
 have hext1:=EG (fun _=>False) hi.base (.map #[] 0) (fun _=>False) (some (.obj σ.length none))
 have hext:Ext (fun _=>False) G G' w (w.alloc (.map #[] 0)):=⟨hext1.I,hext1.same,⟨Cr _ _,fun _ _ _ h=>h⟩,fun _ _ _ _=>rfl,hext1.fix⟩
 have hb1:=Ep hi.base (.map #[] 0) (fun _=>False) (some (.obj σ.length none))
 have hbase:Base cx G' (w.alloc (.map #[] 0)):={ hb1 with bl:=hi.base.bl.trans ⟨Cr _ _,fun _ _ _ h=>h⟩ }
 have hbl:G'.bl.l[σ.length]?=some w.heap.size:=by
  show(G.bl.l++[w.heap.size])[σ.length]?=_;rw[←hi.len];simp
 refine⟨G',hi.step _ (some d) _ hext hbase (by simp[CV,AOp.wr]) ?_ ?_ ?_ (fun id g x h=>by have:=hi.abl id g x h;simp;omega)⟩
 ·intro s q hq;simp only[AOp.wr,Option.toList,Bh,BD,CF,BK,CV] at hq;rw[C8] at hq
  split at hq
  ·rename_i hc;cases hq;refine .inr ?_
   rw[hc.1,BL hk rfl,EL _ _ _ (by rw[hi.size];exact hdl)]
   exact⟨.one (.inr (.mref hbl)),trivial⟩
  ·rename_i hc;have hsd:s≠d:=fun e=>hc ⟨e,by have:=hi.room;omega⟩
   refine .inl ⟨hq,fun e=>hsd (Option.some.inj e).symm,fun j h=>h,fun d' off e hbx hdd=>?_,fun m hm=>⟨fun e=>?_,fun h=>h⟩⟩
   ·cases hdd;rw[hbx] at hk;simp[SK.val] at hk
   ·cases e;obtain⟨keys,hkm⟩:=cx.ents s d hm;rw[hkm] at hk;simp[SK.val] at hk
 ·intro id cs' hc;by_cases hid:id<σ.length
  ·rw[Ae hid] at hc;exact .inl ⟨hc,fun _ h=>h⟩
  ·have:id=σ.length:=by
    have:=(Ab.1 hc).1;simp at this;omega
   subst this;simp at hc;subst hc;refine .inr ⟨w.heap.size,hbl,.inr (.inr (.inr (.inr (.inl ⟨kd,z.Ag,[],[],rfl,if_pos rfl,?_,⟨rfl,rfl⟩,#[],heap_alloc_new' _ _,rfl,fun j e h=>by simp at h⟩))))⟩
   rintro x (h | ⟨_,h⟩)
   ·have:=hi.base.lt _ _ h;omega
   ·exact h
 ·show(G.bl.l++[w.heap.size]).length=_;simp[hi.len]
theorem nW(hi:Inv cx G a w A σ)(hkd:∀t,cx.kd t=fi.kind t)(hnt:cx.nt=fi.nt){o:Oper}{c:Call}(ho:o.op=.call c)(hb:c.callee=.builtin .len){kt et:TypeId}(ht:c.argTypes.toList.map P.underlying=[some (.map kt et)])
  {az:List Ct} (hc:Aq fi c.args.toList=some az) (hd:BA fi o.dst=true) (hrun:BV pur call { dst:=o.dst,k:=.r .lnM,args:=az } A σ=some (A',σ')):Gives P cx o a w A' σ':=by
 obtain⟨vs,rs,he,hs,hA1,hA2⟩:=Hl hrun;simp only[sem] at hs;obtain⟨rs',hs2,e⟩:=Ac.1 hs;cases e
 obtain⟨t,htys,htu⟩:∃t,c.argTypes=#[t]∧P.underlying t=some (.map kt et):=by
  cases h:c.argTypes.toList with
  |nil=>rw[h] at ht;simp at ht
  |cons t r=>cases r with
   |nil=>rw[h] at ht;exact⟨t,BZ.1 h,by simpa using ht⟩
   |cons _ _=>rw[h] at ht;simp at ht
 match vs,hs2 with
 |[.mref id],hs2=>
  simp only[BR] at hs2
  split at hs2
  ·rename_i d' z' ks ws hm;cases hs2;obtain⟨x,y,hxs,rfl,hy,hp⟩:=X4 hc he;obtain⟨hid,b,hb1,hmo⟩:=Jz hi hm;obtain⟨b',hb2,ev⟩:=(Ba hi hkd hy hp rfl).Ik;rw[hb1] at hb2;cases hb2;obtain⟨_,_,_,es,hes,hsz,_⟩:=hmo;have hargs:c.args=#[x]:=BZ.1 hxs;rw[Mi (ao:={ dst:=o.dst,k:=.r .lnM,args:=_ }) rfl rfl rfl hA1 hA2];refine .inl ⟨.int .i64 ks.length,w,?_,G,hi.JK (Ext.refl _ _ _) hi.base rfl o.dst (DC hkd hnt hd) rfl (.one (.inl (.int _ _))) (fun _ _=>trivial)⟩
   have hget:(getObj b).run P w=.ok (.map es es.size) w:=by simp[getObj,Sem.run,hes]
   obtain⟨consts,hr⟩:=Fb (P:=P) (w:=w) (a:=a) ho hb;rw[hargs,htys] at hr;rw[hr];simp[builtin,ev,Builtin.len_,underlying,htu,hget,hsz,goInt]
  ·cases hs2
 |[.nilm],hs2=>
  simp only[BR] at hs2;cases hs2;obtain⟨x,y,hxs,rfl,hy,hp⟩:=X4 hc he;have ev:=(Ba hi hkd hy hp rfl).Ra;have hargs:c.args=#[x]:=BZ.1 hxs;rw[Mi (ao:={ dst:=o.dst,k:=.r .lnM,args:=_ }) rfl rfl rfl hA1 hA2];refine .inl ⟨.int .i64 0,w,?_,G,hi.JK (Ext.refl _ _ _) hi.base rfl o.dst (DC hkd hnt hd) rfl (.one (.inl (.int _ _))) (fun _ _=>trivial)⟩
  obtain⟨consts,hr⟩:=Fb (P:=P) (w:=w) (a:=a) ho hb;rw[hargs,htys] at hr;rw[hr];simp[builtin,ev,Builtin.len_,underlying,htu,goInt]
end
end Go.Abs

namespace Go.Abs
open Go.RowKit
set_option linter.unusedVariables false
set_option linter.unusedSimpArgs false
section
variable{P:Program}{pur:FuncId→Bool}{call:Caller}{fi:FI}{cx:Cx}{G:Gh}{a:Act}{w:World}{A A':Frm}{σ σ':Sto}
theorem Kg{b:Nat}{es:Array MapEntry}{c:Nat}(h:w.heap[b]?=some (.map es c)):(getObj b).run P w=.ok (.map es c) w:=by simp[getObj,Sem.run,h]
theorem Nz{I:Imm}{bl:Bl}{c:Value}{v:PV}(hr:Bu I bl w c v)(hc:(v.flat||v.EF)=true):GL I bl w c v.Ag:=by
 rw[Df] at hc;rcases hc with hc | hc
 ·exact .inl (hr.flat hc).Ag
 ·have e:v.Ag=v:=by cases v<;>first | rfl | cases hc
  rw[e];cases hr with
  |one h=>exact h
  |func=>cases hc
  |tuple=>cases hc
  |aggr=>cases hc
theorem YR(hi:Inv cx G a w A σ)(hkd:∀t,cx.kd t=fi.kind t)(hnt:cx.nt=fi.nt){o:Oper}{ok:Bool}{v:PV}{b:Bool}{rs:List (Option PV)}(h:lkR ok v b=some rs){c:Value}(hr:Bu G.I G.bl w c v)(hf:v.free=true)(hd:BA fi o.dst=true)
  (hrun:(execOp a.eval o).run P w=.ok (.value (if ok then .tuple #[c,.bool b] else c)) w) (hA:∀p,rs=[some p]→A'=GA A o.dst p):Gives P cx o a w A' σ:=by
 unfold lkR at h;cases ok with
 |true=>
  rw[if_pos rfl] at h
  split at h
  case isFalse=>cases h
  rename_i hc;cases h;rw[hA _ rfl];refine .inl ⟨_,w,hrun,G,hi.JK (Ext.refl _ _ _) hi.base rfl o.dst (DC hkd hnt hd) rfl (.tuple rfl fun i p hp=>?_) (fun _ _=>trivial)⟩
  match i with
  |0=>
   simp at hp;subst hp;exact .inl (Nz hr hc)
  |1=>simp at hp;subst hp;exact .inl (.inl (.bool b))
  |n+2=>simp at hp
 |false=>
  simp only[Bool.false_eq_true,if_false] at hrun;have h:(if v.free=true then some [some v.Ag] else none)=some rs:=h
  rw[if_pos hf] at h;cases h;rw[hA _ rfl];exact .inl ⟨_,w,hrun,G,hi.JK (Ext.refl _ _ _) hi.base rfl o.dst (DC hkd hnt hd) (by rw[C9];exact hf) hr.Ag (fun _ _=>Cj _)⟩
theorem nX(hi:Inv cx G a w A σ)(hkd:∀t,cx.kd t=fi.kind t)(hnt:cx.nt=fi.nt){o:Oper}{t kt et:TypeId}{x y:Operand}{ok:Bool}(ho:o.op=.lookup t x y ok)(ht:P.underlying t=some (.map kt et))
  {d:KD} (hkt:MK P kt=some d) {z:PV} (hz:EP P et=some z)
  {az:List Ct} (hc:Aq fi [x,y]=some az) (hd:BA fi o.dst=true) (hrun:BV pur call { dst:=o.dst,k:=.r (.lkM z ok d),args:=az } A σ=some (A',σ')):Gives P cx o a w A' σ':=by
 obtain⟨vs,rs,he,hs,hA1,hA2⟩:=Hl hrun;simp only[sem] at hs;obtain⟨rs',hs2,e⟩:=Ac.1 hs;cases e;clear hs;obtain⟨zv,hzrun,hzrep,hzfree⟩:=VP hz G.I
 have hA:∀p,rs=[some p]→A'=GA A o.dst p:=fun p e=>by
  subst e;exact Mi (ao:={ dst:=o.dst,k:=.r (.lkM z ok d),args:=az }) rfl rfl rfl hA1 hA2
 match vs,hs2 with
 |[.mref id,k],hs2=>
  simp only[BR] at hs2
  split at hs2
  ·rename_i d' z' ks ws x1 hm hk
   split at hs2
   case isFalse=>cases hs2
   rename_i hcc;obtain⟨rfl,hzs⟩:=hcc;obtain rfl:=VO hzs;obtain⟨x',x2,y1,y2,e',rfl,hy1,hy2,hp,hq⟩:=Us hc he;cases e';obtain⟨hid,b,hb1,hmo⟩:=Jz hi hm;obtain⟨b',hb2,ev⟩:=(Ba hi hkd hy1 hp rfl).Ik;rw[hb1] at hb2;cases hb2;obtain⟨ek,hkx⟩:=NR hk (Ba hi hkd hy2 hq (Qp hk));obtain⟨_,_,⟨hlen,hall⟩,es,hes,hsz,hent⟩:=hmo;have hkeys:=MW.keys hsz hent;have hget:=Kg (P:=P) hes;have hck:=Ju (P:=P) (w:=w) es.isEmpty hkt hkx;have hfd:=Kh (P:=P) (w:=w) hkt hkx hkeys hall;cases hj:FT x1 ks with
   |some j=>
    have hjk:=J4 hj;have hjl:=(Ab.1 hjk).1;have hv:ws[j]?=some ws[j]:=Ad (by omega)
    have hje:es[j]?=some es[j]:=Az (by omega)
    have hlk:Gq x1 ks ws=some ws[j]:=by unfold Gq;rw[hj];exact hv
    rw[hlk] at hs2;have hrep:=(hent j _ hje).2.2 _ hv;refine YR hi hkd hnt hs2 hrep hrep.free hd ?_ hA
    have hfd2:(Instr.findKey kt x1.val es.toList).run P w=.ok (some (j,es[j].val)) w:=by
     rw[hfd,hj];simp[hje]
    simp[execOp,ho,Instr.lookup,underlying,ht,ev,ek,hget,hck,hfd2]
   |none=>
    have hlk:Gq x1 ks ws=none:=by unfold Gq;rw[hj];rfl
    rw[hlk] at hs2;refine YR hi hkd hnt hs2 (.one (.inl (hzrep w))) hzfree hd ?_ hA
    have hfd2:(Instr.findKey kt x1.val es.toList).run P w=.ok none w:=by
     rw[hfd,hj];rfl
    simp[execOp,ho,Instr.lookup,underlying,ht,ev,ek,hget,hck,hfd2,hzrun]
  ·cases hs2
 |[.nilm,k],hs2=>
  simp only[BR] at hs2
  split at hs2
  ·rename_i x1 hk;obtain⟨x',x2,y1,y2,e',rfl,hy1,hy2,hp,hq⟩:=Us hc he;cases e';have ev:=(Ba hi hkd hy1 hp rfl).Ra;obtain⟨ek,hkx⟩:=NR hk (Ba hi hkd hy2 hq (Qp hk));have hck:=Ju (P:=P) (w:=w) true hkt hkx;have hfd:=Kh (P:=P) (w:=w) hkt hkx (es:=[]) (ks:=[]) rfl rfl;refine YR hi hkd hnt hs2 (.one (.inl (hzrep w))) hzfree hd ?_ hA
   have hfd2:(Instr.findKey kt x1.val []).run P w=.ok none w:=by rw[hfd];rfl
   simp[execOp,ho,Instr.lookup,underlying,ht,ev,ek,hck,hfd2,hzrun]
  ·cases hs2
theorem Sn{ks:List Kx}{vs:List PV}{es:Array MapEntry}(hsz:es.size=ks.length)(hlen:vs.length=ks.length)(hent:∀(j:Nat) (e:MapEntry),es[j]?=some e→e.born=j∧(ks[j]?).map Kx.val=some e.key∧∀p,vs[j]?=some p→Bu G.I G.bl w e.val p)
  {j:Nat} (hj:j<ks.length) {f:MapEntry→MapEntry} {v:PV} (hb:∀e,es[j]?=some e→(f e).born=e.born∧(f e).key=e.key∧Bu G.I G.bl w (f e).val v) :
  (vs.set j v).length=ks.length∧(es.modify j f).size=ks.length∧∀(i:Nat) (e:MapEntry),(es.modify j f)[i]?=some e→e.born=i∧(ks[i]?).map Kx.val=some e.key∧∀p,(vs.set j v)[i]?=some p→Bu G.I G.bl w e.val p:=by
 refine⟨by simp[hlen],by simp[hsz],fun i e he=>?_⟩
 rw[Ch] at he
 split at he
 ·rename_i hji;subst hji;obtain⟨e0,h0,rfl⟩:=Ac.1 he;obtain⟨q1,q2,q3⟩:=hb e0 h0;obtain⟨r1,r2,_⟩:=hent _ e0 h0;refine⟨q1.trans r1,by rw[q2];exact r2,fun p hp=>?_⟩
  rw[AP (by omega)] at hp
  cases hp;exact q3
 ·rename_i hji;obtain⟨r1,r2,r3⟩:=hent i e he;refine⟨r1,r2,fun p hp=>?_⟩
  rw[Ap hji] at hp;exact r3 p hp
theorem Ul{ks:List Kx}{vs:List PV}{es:Array MapEntry}(hsz:es.size=ks.length)(hlen:vs.length=ks.length)(hent:∀(j:Nat) (e:MapEntry),es[j]?=some e→e.born=j∧(ks[j]?).map Kx.val=some e.key∧∀p,vs[j]?=some p→Bu G.I G.bl w e.val p)
  (x:Kx) {v:PV} {c:Value} (hr:Bu G.I G.bl w c v) :
  (vs++[v]).length=(ks++[x]).length∧(es.push { key:=x.val,val:=c,born:=es.size }).size=(ks++[x]).length∧
   ∀(i:Nat) (e:MapEntry),(es.push { key:=x.val,val:=c,born:=es.size })[i]?=some e→e.born=i∧((ks++[x])[i]?).map Kx.val=some e.key∧∀p,(vs++[v])[i]?=some p→Bu G.I G.bl w e.val p:=by
 refine⟨by simp[hlen],by simp[hsz],fun i e he=>?_⟩
 rw[El] at he
 split at he
 ·rename_i hi;cases he;subst hi;refine⟨rfl,by rw[hsz,Al (Be _),Nat.sub_self];rfl,fun p hp=>?_⟩
  rw[hsz,←hlen,Al (Be _),Nat.sub_self] at hp;cases hp;exact hr
 ·rename_i hi;have hil:=(Bd.1 he).1;obtain⟨r1,r2,r3⟩:=hent i e he;refine⟨r1,by rw[Ae (by omega)];exact r2,fun p hp=>?_⟩
  rw[Ae (by omega)] at hp
  exact r3 p hp
theorem I8{b:Nat}{es es':Array MapEntry}{c c':Nat}(h:w.heap[b]?=some (.map es c)):(setObj b (.map es' c')).run P w=.ok () (gM w b (.map es' c')):=MapKept.run_setObj_map _ h
theorem Zx(hi:Inv cx G a w A σ)(hkd:∀t,cx.kd t=fi.kind t){o:Oper}{t kt et:TypeId}{m x y:Operand}(ho:o.op=.mapUpdate t m x y∨o.op=.insert t m x y)(hod:o.dst=none)(ht:P.underlying t=some (.map kt et))
  {d:KD} (hkt:MK P kt=some d)
  {az:List Ct} (hc:Aq fi [m,x,y]=some az) (hrun:BV pur call { dst:=none,k:=.w (.upM d),args:=az } A σ=some (A',σ')):Gives P cx o a w A' σ':=by
 obtain⟨vs,rs,he,hs,hA1,hA2⟩:=Hl hrun;simp only[sem] at hs;obtain⟨y1,zs,rfl,hy1,hz'⟩:=AL hc;obtain⟨y2,zs,rfl,hy2,hz'⟩:=AL hz';obtain⟨y3,zs,rfl,hy3,hz'⟩:=AL hz';cases hz';obtain⟨p1,qs,rfl,hp1,hq⟩:=Au he;obtain⟨p2,qs,rfl,hp2,hq⟩:=Au hq;obtain⟨p3,qs,rfl,hp3,hq⟩:=Au hq;cases hq;cases p1 with
 |mref id=>
  simp only[Cq] at hs
  split at hs
  ·rename_i d' z' ks ws x1 hm hk
   split at hs
   case isFalse=>cases hs
   rename_i hcc;obtain⟨rfl,hvf⟩:=hcc;obtain⟨hid,b,hb1,hmo⟩:=Jz hi hm;obtain⟨b',hb2,ev⟩:=(Ba hi hkd hy1 hp1 rfl).Ik;rw[hb1] at hb2;cases hb2;obtain⟨ek,hkx⟩:=NR hk (Ba hi hkd hy2 hp2 (Qp hk));have hrv:=(Ba hi hkd hy3 hp3 hvf).Ag;have hmo':=hmo;obtain⟨_,_,⟨hlen,hall⟩,es,hes,hsz,hent⟩:=hmo;have hkeys:=MW.keys hsz hent;have hget:=Kg (P:=P) hes;have hck:=Ju (P:=P) (w:=w) false hkt hkx;have hfd:=Kh (P:=P) (w:=w) hkt hkx hkeys hall
   split at hs
   ·rename_i j hj;cases hs;rw[hA1 rfl];have hjk:=J4 hj;have hjl:=(Ab.1 hjk).1;have hje:es[j]?=some es[j]:=Az (by omega)
    have hke:es[j].key=x1.val:=by
     have:=(hent j _ hje).2.1;rw[hjk] at this;exact(Option.some.inj this).symm
    have hall':=hall;obtain⟨g1,g2,g3⟩:=Sn hsz hlen hent hjl (f:=fun e=>{ e with key:=x1.val,val:=a.eval y }) (v:=p3.Ag) (fun e he=>⟨rfl,by rw[hje] at he;cases he;exact hke.symm,hrv⟩)
    have hst:=LA hi z' hb1 hmo' hid hall' g1 g2 g3;refine .inr ⟨_,?_,⟨G,by rw[hod];exact hst⟩⟩
    have hkey:(Instr.keyThatStays (((es[j]?).map (·.key)).getD x1.val) x1.val).run P w=.ok x1.val w:=by
     rw[hje];simp only[Ay,CB,hke];exact Ld x1
    have hfd2:(Instr.findKey kt x1.val es.toList).run P w=.ok (some (j,es[j].val)) w:=by
     rw[hfd,hj];simp[hje]
    have hsm:=I8 (P:=P) (es':=es.modify j fun e=>{ e with key:=x1.val,val:=a.eval y }) (c':=es.size) hes
    have e9:(es.modify j fun e=>{ e with key:=x1.val,val:=a.eval y }).size=es.size:=by simp
    rcases ho with ho | ho
    ·simp only[execOp,ho,ev,ek,Instr.mapUpdate,Sem.run_bind,run_underlying ht,Result.andThen_ok,hget,hck,hfd2,hkey,hsm,e9];rfl
    ·simp only[execOp,ho,ev,ek,Instr.mapUpdate,Sem.run_bind,run_underlying ht,Result.andThen_ok,hget,hck,hfd2,hkey,hsm,e9];rfl
   ·rename_i hj
    split at hs
    case isFalse=>cases hs
    cases hs;rw[hA1 rfl];have hall':(ks++[x1]).all (IB d')=true:=by simp[Ff,hall,hkx]
    obtain⟨g1,g2,g3⟩:=Ul hsz hlen hent x1 hrv;have hst:=LA hi z' hb1 hmo' hid hall' g1 g2 g3;refine .inr ⟨_,?_,⟨G,by rw[hod];exact hst⟩⟩
    have hfd2:(Instr.findKey kt x1.val es.toList).run P w=.ok none w:=by rw[hfd,hj];rfl
    have hsm:=I8 (P:=P) (es':=es.push { key:=x1.val,val:=a.eval y,born:=es.size }) (c':=es.size+1) hes;have e9:(es.push { key:=x1.val,val:=a.eval y,born:=es.size }).size=es.size+1:=by simp
    rcases ho with ho | ho
    ·simp only[execOp,ho,ev,ek,Instr.mapUpdate,Sem.run_bind,run_underlying ht,Result.andThen_ok,hget,hck,hfd2,hsm,e9];rfl
    ·simp only[execOp,ho,ev,ek,Instr.mapUpdate,Sem.run_bind,run_underlying ht,Result.andThen_ok,hget,hck,hfd2,hsm,e9];rfl
  ·cases hs
 |_=>simp[Cq] at hs
theorem oz(hi:Inv cx G a w A σ)(hkd:∀t,cx.kd t=fi.kind t)(hnt:cx.nt=fi.nt){o:Oper}{t kt et:TypeId}{m x:Operand}(ho:o.op=.mapEntry t m x)(ht:P.underlying t=some (.map kt et))
  {d:KD} (hkt:MK P kt=some d) {z:PV} (hz:EP P et=some z)
  {az:List Ct} (hc:Aq fi [m,x]=some az) (hd:BA fi o.dst=true) (hrun:BV pur call { dst:=o.dst,k:=.w (.enM z d),args:=az } A σ=some (A',σ')):Gives P cx o a w A' σ':=by
 obtain⟨vs,rs,he,hs,hA1,hA2⟩:=Hl hrun;simp only[sem] at hs;obtain⟨zv,hzrun,hzrep,hzfree⟩:=VP hz G.I
 have hA:∀p,rs=[some p]→A'=GA A o.dst p:=fun p e=>by
  subst e;exact Mi (ao:={ dst:=o.dst,k:=.w (.enM z d),args:=az }) rfl rfl rfl hA1 hA2
 match vs,hs with
 |[.mref id,k],hs=>
  simp only[Cq] at hs
  split at hs
  ·rename_i d' z' ks ws x1 hm hk
   split at hs
   case isFalse=>cases hs
   rename_i hcc;obtain⟨rfl,hzs,hzf⟩:=hcc;obtain rfl:=VO hzs;obtain⟨x',x2,y1,y2,e',rfl,hy1,hy2,hp1,hp2⟩:=Us hc he;cases e';obtain⟨hid,b,hb1,hmo⟩:=Jz hi hm;obtain⟨b',hb2,ev⟩:=(Ba hi hkd hy1 hp1 rfl).Ik;rw[hb1] at hb2;cases hb2;obtain⟨ek,hkx⟩:=NR hk (Ba hi hkd hy2 hp2 (Qp hk));have hmo':=hmo;obtain⟨_,_,⟨hlen,hall⟩,es,hes,hsz,hent⟩:=hmo;have hkeys:=MW.keys hsz hent;have hget:=Kg (P:=P) hes;have hck:=Ju (P:=P) (w:=w) false hkt hkx;have hfd:=Kh (P:=P) (w:=w) hkt hkx hkeys hall
   split at hs
   ·rename_i j hj
    split at hs
    ·rename_i v hv
     split at hs
     case isFalse=>cases hs
     rename_i hvc;cases hs;rw[hA _ rfl];have hjk:=J4 hj;have hjl:=(Ab.1 hjk).1;have hje:es[j]?=some es[j]:=Az (by omega)
     obtain⟨hbn,hke',hrv'⟩:=hent j _ hje
     have hke:es[j].key=x1.val:=by
      rw[hjk] at hke';exact(Option.some.inj hke').symm
     have hrv:=hrv' v hv;have hall':=hall;obtain⟨g1,g2,g3⟩:=Sn hsz hlen hent hjl (f:=fun e=>{ e with key:=x1.val }) (v:=v) (fun e he=>⟨rfl,by rw[hje] at he;cases he;exact hke.symm,by rw[hje] at he;cases he;exact hrv⟩)
     have hst:=LA hi z hb1 hmo' hid hall' g1 g2 g3
     have e8:ws.set j v=ws:=by
      refine BH fun i=>?_
      by_cases hij:j=i
      ·subst hij;rw[AP (Ab.1 hv).1,hv]
      ·rw[Ap hij]
     have e7:σ.set id [.mapo d' z ks ws]=σ:=by
      have hσ:σ[id]?=some [.mapo d' z ks ws]:=by
       unfold mapOf at hm
       split at hm
       ·cases hm;assumption
       ·cases hm
      refine BH fun i=>?_
      by_cases hij:id=i
      ·subst hij;rw[AP hid,hσ]
      ·rw[Ap hij]
     rw[e8,e7] at hst;have hob:=QG w b (.map (es.modify j fun e=>{ e with key:=x1.val }) (es.modify j fun e=>{ e with key:=x1.val }).size)
     have hext:=MB (X:=fun tg=>tg=.obj id none) hob hmo'.1 hmo'.2.1 rfl
     refine .inl ⟨.tuple #[es[j].val,goInt (j:Nat)],_,?_,G,hst.JK (Ext.refl _ _ _) hst.base rfl o.dst (DC hkd hnt hd) rfl (.tuple rfl fun i p hp=>?_) (fun _ _=>trivial)⟩
     ·have hkey:(Instr.keyThatStays (((es[j]?).map (·.key)).getD x1.val) x1.val).run P w=.ok x1.val w:=by
       rw[hje];simp only[Ay,CB,hke];exact Ld x1
      have hfd2:(Instr.findKey kt x1.val es.toList).run P w=.ok (some (j,es[j].val)) w:=by
       rw[hfd,hj];simp[hje]
      have hsm:=I8 (P:=P) (es':=es.modify j fun e=>{ e with key:=x1.val }) (c':=es.size) hes
      have e9:(es.modify j fun e=>{ e with key:=x1.val }).size=es.size:=by simp
      simp only[execOp,ho,ev,ek,Instr.mapEntry,Sem.run_bind,run_underlying ht,Result.andThen_ok,hget,hck,hfd2,hje,Ay,CB,hke,Ld,hsm,e9,Sem.run_pure,hbn]
     ·match i with
      |0=>
       simp at hp;subst hp;exact .inl ((Nz hrv hvc).mono hext.I hext.same hext.bl)
      |1=>simp at hp;subst hp;exact .inl (.inl (.int _ _))
      |n+2=>simp at hp
    ·cases hs
   ·rename_i hj
    split at hs
    case isFalse=>cases hs
    cases hs;rw[hA _ rfl];have hall':(ks++[x1]).all (IB d')=true:=by simp[Ff,hall,hkx]
    obtain⟨g1,g2,g3⟩:=Ul hsz hlen hent x1 (Bu.one (bl:=G.bl) (.inl (hzrep w)));have hst:=LA hi z hb1 hmo' hid hall' g1 g2 g3;have hfd2:(Instr.findKey kt x1.val es.toList).run P w=.ok none w:=by rw[hfd,hj];rfl
    have hsm:=I8 (P:=P) (es':=es.push { key:=x1.val,val:=zv,born:=es.size }) (c':=es.size+1) hes;have e9:(es.push { key:=x1.val,val:=zv,born:=es.size }).size=es.size+1:=by simp
    refine .inl ⟨.tuple #[zv,goInt (es.size:Nat)],_,?_,G,hst.JK (Ext.refl _ _ _) hst.base rfl o.dst (DC hkd hnt hd) rfl (.tuple rfl fun i p hp=>?_) (fun _ _=>trivial)⟩
    ·simp only[execOp,ho,ev,ek,Instr.mapEntry,Sem.run_bind,run_underlying ht,Result.andThen_ok,hget,hck,hfd2,hzrun,hsm,e9,Sem.run_pure]
    ·match i with
     |0=>simp at hp;subst hp;exact .inl (.inl (hzrep _).Ag)
     |1=>simp at hp;subst hp;rw[hsz];exact .inl (.inl (.int _ _))
     |n+2=>simp at hp
  ·cases hs
theorem ow(hi:Inv cx G a w A σ)(hkd:∀t,cx.kd t=fi.kind t){o:Oper}{t:TypeId}{m x y:Operand}(ho:o.op=.entryStore t m x y)(hod:o.dst=none)
  {az:List Ct} (hc:Aq fi [m,x,y]=some az) (hrun:BV pur call { dst:=none,k:=.w .esM,args:=az } A σ=some (A',σ')):Gives P cx o a w A' σ':=by
 obtain⟨vs,rs,he,hs,hA1,hA2⟩:=Hl hrun;simp only[sem] at hs;obtain⟨y1,zs,rfl,hy1,hz'⟩:=AL hc;obtain⟨y2,zs,rfl,hy2,hz'⟩:=AL hz';obtain⟨y3,zs,rfl,hy3,hz'⟩:=AL hz';cases hz';obtain⟨p1,qs,rfl,hp1,hq⟩:=Au he;obtain⟨p2,qs,rfl,hp2,hq⟩:=Au hq;obtain⟨p3,qs,rfl,hp3,hq⟩:=Au hq;cases hq;cases p1 with
 |mref id=>
  cases p2 with
  |int k i=>
   simp only[Cq] at hs
   split at hs
   ·rename_i d' z' ks ws hm
    split at hs
    case isFalse=>cases hs
    rename_i hcc;obtain⟨h0,hlt,hvf⟩:=hcc;cases hs;rw[hA1 rfl];obtain⟨hid,b,hb1,hmo⟩:=Jz hi hm;obtain⟨b',hb2,ev⟩:=(Ba hi hkd hy1 hp1 rfl).Ik;rw[hb1] at hb2;cases hb2;have ei:=(Ba hi hkd hy2 hp2 rfl).Db;have hrv:=(Ba hi hkd hy3 hp3 hvf).Ag;have hmo':=hmo;obtain⟨_,_,⟨hlen,hall⟩,es,hes,hsz,hent⟩:=hmo;have hall':=hall;have hget:=Kg (P:=P) hes;have hjl:i.toNat<ks.length:=by omega
    obtain⟨g1,g2,g3⟩:=Sn hsz hlen hent hjl (f:=fun e=>{ e with val:=a.eval y }) (v:=p3.Ag) (fun e he=>⟨rfl,rfl,hrv⟩)
    have hst:=LA hi z' hb1 hmo' hid hall' g1 g2 g3;refine .inr ⟨_,?_,⟨G,by rw[hod];exact hst⟩⟩
    have hsm:=I8 (P:=P) (es':=es.modify i.toNat fun e=>{ e with val:=a.eval y }) (c':=es.size) hes
    have e9:(es.modify i.toNat fun e=>{ e with val:=a.eval y }).size=es.size:=by simp
    have hfi:es.findIdx? (fun e=>(e.born:Int)==i)=some i.toNat:=by
     rw[Array.findIdx?_eq_some_iff_getElem]
     refine⟨by omega,?_,fun j hj=>?_⟩
     ·have:=(hent i.toNat _ (Az (by omega))).1
      simp only[this,beq_iff_eq];omega
     ·have:=(hent j _ (Az (by omega))).1
      simp only[this,beq_iff_eq];omega
    simp only[execOp,ho,ev,ei,Instr.entryStore,Sem.run_bind,Result.andThen_ok,hget,asInt,asIntOf,Sem.run_pure,hfi,hsm,e9]
   ·cases hs
  |_=>simp[Cq] at hs
 |_=>simp[Cq] at hs
end
end Go.Abs

namespace Go.Abs
open Go.RowKit
section
variable{P:Program}{pur:FuncId→Bool}{call:Caller}{fi:FI}{cx:Cx}{G:Gh}{a:Act}{w:World}{A A':Frm}{σ σ':Sto}
theorem aA(hi:Inv cx G a w A σ){id mid since:Nat}{seen:List Nat}(h:FC σ[id]?=some (mid,since,seen)):id<σ.length∧∃b,G.bl.l[id]?=some b∧X9 G w b id mid since seen:=by
 unfold FC at h
 split at h
 ·rename_i mid' since' seen' hσ;cases h;obtain⟨b,h1,h2⟩:=hi.obj id _ hσ;refine⟨(Ab.1 hσ).1,b,h1,?_⟩
  rcases h2 with h2 | ⟨t,e,l,h,_⟩ | h | ⟨_,_,_,h,_⟩ | ⟨_,_,_,_,h,_⟩ | ⟨_,_,_,h,h2⟩
  ·obtain⟨_,_,cs,_,_,_,h⟩:=h2;rcases h 0 _ rfl with⟨h,_⟩ | ⟨h,_⟩
   ·exact absurd h.free (by simp[PV.free])
   ·cases h
  ·cases h
  ·cases h
  ·cases h
  ·cases h
  ·cases h;exact h2
 ·cases h
theorem SG{es:Array MapEntry}(hb:∀(j:Nat) (e:MapEntry),es[j]?=some e→e.born=j):es.toList.map (·.born)=List.range es.size:=by
 refine BH fun i=>?_
 rw[Af,Aw];rcases Cc i es.size with hi | hi
 ·rw[Az hi,Ck hi,Ay,hb i _ (Az hi)]
 ·rw[Dx hi,AC (by simpa using hi)];rfl
theorem cO{es:Array MapEntry}(seen:List Nat)(hb:∀(j:Nat) (e:MapEntry),es[j]?=some e→e.born=j):(leftOf es seen.toArray).toList.map (·.born)=Fe es.size seen:=by
 unfold leftOf Fe;rw[Array.toList_filter,←SG hb,List.filter_map];congr 1;refine List.filter_congr fun x _=>?_
 simp
theorem YS(I:Imm)(w:World)(k:Kx):Rep I w k.val k.pv:=by
 cases k with
 |i k n=>exact .int k n
 |s l=>exact .str _
 |a l=>
  refine .agg (by simp) fun i p hp=>?_
  rw[Af] at hp;obtain⟨x,hx,rfl⟩:=Ac.1 hp;rw[Ah,Cz,Af,hx];exact .int _ _
theorem Inv.drew(hi:Inv cx G a w A σ):Inv cx G a w.drew A σ:=by
 have:=hi.step (fun _=>False) none undef (Jj _) (FY hi.base) rfl (fun t p hp=>.inl ⟨hp,by simp,fun _ h=>h,fun _ _ _ _=>by simp,fun _ _=>⟨by simp,fun h=>h⟩⟩) (fun _ cs hc=>.inl ⟨hc,fun _ h=>h⟩) hi.len hi.abl
 exact this
theorem WY(hi:Inv cx G a w A σ){id mid since:Nat}{seen:List Nat}(hit:FC σ[id]?=some (mid,since,seen)){d:KD}{z:PV}{ks:List Kx}{vs:List PV}(hm:mapOf σ[mid]?=some (d,z,ks,vs))(hn:ks.length=since)
  {v:Value} (hv:Bu G.I G.bl w v (.ref id 0)) (ty:TypeId) :
  (Fe since seen=[]∧(Instr.next v false ty).run P w=.ok (.tuple #[.bool false]) w) ∨
  ∃j,j∈Fe since seen∧∃w' k p c,ks[j]?=some k∧vs[j]?=some p∧(Instr.next v false ty).run P w=.ok (.tuple #[.bool true,k.val,c]) w'∧Inv cx G a w' A (σ.set id [.itr mid since (seen++[j])])∧Bu G.I G.bl w' c p:=by
 obtain⟨hid,b,hb,hω,hI,m,hm',hheap⟩:=aA hi hit;obtain⟨_,b2,hb2,hω2,hI2,⟨hlen,hall⟩,es,hes,hsz,hent⟩:=Jz hi hm;rw[hm'] at hb2;cases hb2;obtain⟨b',hb',rfl⟩:=hv.Ho;rw[hb] at hb';cases hb';have hborn:∀(j:Nat) (e:MapEntry),es[j]?=some e→e.born=j:=fun j e he=>(hent j e he).1
 have hss:es.size=since:=by omega
 have hat:∀e∈es.toList,es[e.born]?=some e:=by
  intro e he;obtain⟨i,hi⟩:=Bb.1 he;rw[Aw] at hi;rw[hborn i e hi];exact hi
 have hlb:=cO seen hborn;rw[hss] at hlb
 rcases run_next_at (P:=P) w ty b m since since seen.toArray es es.size hheap hes (fun x hx=>by
  have:=(Bd.1 (hat x hx)).1
  omega) (Be _) with⟨h0,hrun⟩ | ⟨e,he,w1,hw1,hrun⟩
 ·refine .inl ⟨?_,hrun⟩
  rw[←hlb];have:(leftOf es seen.toArray).toList=[]:=Bq.1 (by simpa using h0)
  rw[this];rfl
 ·have hmem:e∈es.toList:=by
   unfold leftOf at he;rw[Array.toList_filter] at he;exact(DI.1 he).1
  have hj:=hat e hmem;obtain⟨_,hk,hr⟩:=hent _ e hj;obtain⟨k,hk1,hk2⟩:=Ac.1 hk;have hjl:e.born<vs.length:=by have:=(Bd.1 hj).1;omega
  have hrep:=hr _ (Ad hjl)
  have hi1:Inv cx G a w1 A σ:=by
   rcases hw1 with rfl | rfl
   ·exact hi
   ·exact hi.drew
  have hs1:Same G.I w w1:=by
   rcases hw1 with rfl | rfl
   ·exact Same.refl _ _
   ·exact⟨fun _ _ _=>rfl,fun _ _=>rfl⟩
  have hheap1:w1.heap[b]?=some (.mapIter (some m) since seen.toArray since):=by rcases hw1 with rfl | rfl<;>exact hheap
  have hob:=QG w1 b (.mapIter (some m) since (seen.toArray.push e.born) es.size);have hext:=MB (X:=fun tg=>tg=.obj id none) hob hω hI rfl
  have hbase:=Np hi1.base hob hω hI;refine .inr ⟨e.born,by rw[←hlb];exact Ce.2 ⟨e,he,rfl⟩,_,k,_,e.val,hk1,Ad hjl,by rw[hk2];exact hrun,?_,(hrep.mono (fun _ _ h=>h) hs1 (Bl.le_refl _)).mono hext.I hext.same hext.bl⟩
  exact hi1.Mo (X:=fun tg=>tg=.obj id none) (T:=fun _=>False) none undef (fun _ h=>by cases h) hid
   ⟨b,hb,.inr (.inr (.inr (.inr (.inr ⟨mid,since,_,rfl,hω,hI,m,hm',by
    rw[show(seen++[e.born]).toArray=seen.toArray.push e.born by simp]
    have:=ZK (o:=.mapIter (some m) since (seen.toArray.push e.born) es.size) hheap1;rw[hss] at this ⊢;exact this⟩))))⟩
   hext hbase rfl (fun tg h=>.inl ⟨none,h⟩) (fun _ h=>h.elim) rfl (fun t p hp=>.inl ⟨fun h=>h,by simp,hp⟩)
theorem nM(hi:Inv cx G a w A σ)(hkd:∀t,cx.kd t=fi.kind t)(hnt:cx.nt=fi.nt){o:Oper}{x:Operand}(ho:o.op=.next x false)
  {az:List Ct} (hc:Aq fi [x]=some az) (hd:BA fi o.dst=true) (hrun:BV pur call { dst:=o.dst,k:=.w .nxM,args:=az } A σ=some (A',σ')):Gives P cx o a w A' σ':=by
 obtain⟨vs,rs,he,hs,hA1,hA2⟩:=Hl hrun;simp only[sem] at hs;obtain⟨y,zs,rfl,hy,hz⟩:=AL hc;cases hz;obtain⟨p,qs,rfl,hp,hq⟩:=Au he;cases hq
 have hA:∀p,rs=[some p]→A'=GA A o.dst p:=fun p e=>by
  subst e;exact Mi (ao:={ dst:=o.dst,k:=.w .nxM,args:=[y] }) rfl rfl rfl hA1 hA2
 have hdst:=DC hkd hnt hd;cases p with
 |ref id off=>
  cases off with
  |succ off=>simp[Cq] at hs
  |zero=>
   simp only[Cq] at hs
   split at hs
   case h_2=>cases hs
   rename_i mid since seen hit
   split at hs
   case h_2=>cases hs
   rename_i d' z' ks ws hm
   split at hs
   case isFalse=>cases hs
   rename_i hn;have hnx:=WY (P:=P) hi hit hm hn (Ba hi hkd hy hp rfl) o.type
   split at hs
   ·rename_i hl;cases hs;rw[hA _ rfl];rcases hnx with⟨_,hr⟩ | ⟨j,hj,_⟩
    ·exact .inl ⟨.tuple #[.bool false],w,by simp[execOp,ho,hr],G,hi.JK (Ext.refl _ _ _) hi.base rfl o.dst hdst rfl (.tuple rfl fun i p hp=>by
      match i with
      |0=>simp at hp;subst hp;exact .inl (.inl (.bool false))
      |n+1=>simp at hp) (fun _ _=>trivial)⟩
    ·rw[hl] at hj;cases hj
   ·rename_i j hl
    split at hs
    case h_2=>cases hs
    rename_i k v hk hv
    split at hs
    case isFalse=>cases hs
    rename_i hvc;cases hs;rw[hA _ rfl];rcases hnx with⟨h0,_⟩ | ⟨j',hj,w',k',p',c,hk',hp',hr,hi',hrep⟩
    ·rw[hl] at h0;cases h0
    ·rw[hl] at hj;have:j'=j:=by simpa using hj
     subst this;rw[hk] at hk';cases hk';rw[hv] at hp';cases hp'
     exact .inl ⟨.tuple #[.bool true,k.val,c],w',by simp[execOp,ho,hr],G,hi'.JK (Ext.refl _ _ _) hi'.base rfl o.dst hdst rfl (.tuple rfl fun i p hp=>by
      match i with
      |0=>simp at hp;subst hp;exact .inl (.inl (.bool true))
      |1=>simp at hp;subst hp;exact .inl (.inl (YS _ _ _))
      |2=>simp at hp;subst hp;exact .inl (Nz hrep hvc)
      |n+3=>simp at hp) (fun _ _=>trivial)⟩
   ·cases hs
 |_=>simp[Cq] at hs
theorem oD(hi:Inv cx G a w A σ)(hkd:∀t,cx.kd t=fi.kind t)(hnt:cx.nt=fi.nt){o:Oper}{x:Operand}(ho:o.op=.entry x)
  {az:List Ct} (hc:Aq fi [x]=some az) (hd:BA fi o.dst=true) (hrun:BV pur call { dst:=o.dst,k:=.r .enI,args:=az } A σ=some (A',σ')):Gives P cx o a w A' σ':=by
 obtain⟨vs,rs,he,hs,hA1,hA2⟩:=Hl hrun;simp only[sem] at hs;obtain⟨rs',hs2,e⟩:=Ac.1 hs;cases e;clear hs;obtain⟨y,zs,rfl,hy,hz⟩:=AL hc;cases hz;obtain⟨p,qs,rfl,hp,hq⟩:=Au he;cases hq
 have hA:∀p,rs=[some p]→A'=GA A o.dst p:=fun p e=>by
  subst e;exact Mi (ao:={ dst:=o.dst,k:=.r .enI,args:=[y] }) rfl rfl rfl hA1 hA2
 cases p with
 |ref id off=>
  cases off with
  |succ off=>simp[BR] at hs2
  |zero=>
   simp only[BR] at hs2
   split at hs2
   case h_2=>cases hs2
   rename_i mid since seen hit
   split at hs2
   case h_2=>cases hs2
   rename_i d' z' ks ws j hm hlast
   split at hs2
   case h_2=>cases hs2
   rename_i k v hk hv
   split at hs2
   case isFalse=>cases hs2
   rename_i hcc;obtain⟨hn,hvc⟩:=hcc;cases hs2;rw[hA _ rfl];obtain⟨hid,b,hb,hω,hI,m,hm',hheap⟩:=aA hi hit;obtain⟨_,b2,hb2,hω2,hI2,⟨hlen,hall⟩,es,hes,hsz,hent⟩:=Jz hi hm;rw[hm'] at hb2;cases hb2;obtain⟨b',hb',hval⟩:=(Ba hi hkd hy hp rfl).Ho;rw[hb] at hb';cases hb';have hjl:j<es.size:=by have:=(Ab.1 hk).1;omega
   have hje:es[j]?=some es[j]:=Az hjl;obtain⟨hbj,hkj,hrj⟩:=hent j _ hje;have hborn:∀(j:Nat) (e:MapEntry),es[j]?=some e→e.born=j:=fun j e he=>(hent j e he).1
   have hseen:seen.toArray=seen.dropLast.toArray.push es[j].born:=by
    rw[hbj];have hne:seen≠[]:=by rintro rfl;simp at hlast
    have:=List.dropLast_concat_getLast hne;rw[List.getLast?_eq_some_getLast hne] at hlast
    rw[Option.some.inj hlast] at this
    conv=>lhs;rw[←this]
    simp
   rw[hseen,←hn,←hsz] at hheap;have hr:=run_entry_at (P:=P) w b m es.size seen.dropLast.toArray es es.size es[j] (by rw[hheap]) hes (by simp) (by rw[SG hborn];exact List.nodup_range)
   have hkv:es[j].key=k.val:=by rw[hk] at hkj;exact(Option.some.inj hkj).symm
   refine .inl ⟨.tuple #[es[j].key,es[j].val],w,by simp[execOp,ho,hval,hr],G,hi.JK (Ext.refl _ _ _) hi.base rfl o.dst (DC hkd hnt hd) rfl (.tuple rfl fun i p hp=>by
    match i with
    |0=>simp at hp;subst hp;rw[hkv];exact .inl (.inl (YS _ _ _))
    |1=>simp at hp;subst hp;exact .inl (Nz (hrj _ hv) hvc)
    |n+2=>simp at hp) (fun _ _=>trivial)⟩
 |_=>simp[BR] at hs2
end
end Go.Abs

namespace Go.Abs
open Go.RowKit
section
variable{P:Program}{pur:FuncId→Bool}{call:Caller}{fi:FI}{cx:Cx}{G:Gh}{a:Act}{w:World}{A A':Frm}{σ σ':Sto}
theorem PH(op:BinOp)(t:TypeId)(x y:Operand)(ad:Option Addr):(eqGuard op t x y (.pointer ad) (.pointer none)).run P w=.ok () w:=by
 cases op<;>rfl
theorem QY{t e:TypeId}(ht:P.underlying t=some (.pointer e)):P.underlying t=some (.pointer (P.pointee t)):=by
 unfold Program.pointee;rw[ht]
theorem Bu.WX{I:Imm}{bl:Bl}{v:Value}(h:Bu I bl w v .nilp):v=.pointer none:=by
 cases h.rep rfl (by simp) (by simp);rfl
theorem V9(hi:Inv cx G a w A σ)(hkd:∀t,cx.kd t=fi.kind t)(hnt:cx.nt=fi.nt){o:Oper}{ne:Bool}{op:BinOp}(hop:op=if ne then .neq else .eql){t yt e:TypeId}{x y:Operand}(ho:o.op=.binOp op t x y yt)(ht:P.underlying t=some (.pointer e))
  {az:List Ct} (hc:Aq fi [x,y]=some az) (hd:BA fi o.dst=true) (hrun:BV pur call { dst:=o.dst,k:=.p (.pnil ne),args:=az } A σ=some (A',σ')):Gives P cx o a w A' σ':=by
 refine F3 hi hkd hnt hd hrun fun vs rs he hs=>?_
 obtain⟨y1,zs,rfl,hy1,hz⟩:=AL hc;obtain⟨y2,zs,rfl,hy2,hz⟩:=AL hz;cases hz;obtain⟨p1,qs,rfl,hp1,hq⟩:=Au he;obtain⟨p2,qs,rfl,hp2,hq⟩:=Au hq;cases hq;cases p2 with
 |nilp=>
  have e2:=(Ba hi hkd hy2 hp2 rfl).WX
  have key:∀(ad:Option Addr) (b:Bool),a.eval x=.pointer ad→ad.isNone=b→(execOp a.eval o).run P w=.ok (.value (.bool (b != ne))) w:=by
   rintro ad b e1 rfl
   have hg:=PH (P:=P) (w:=w) op t x y ad
   have hb:(Go.binOp op t (.pointer ad) (.pointer none)).run P w=.ok (.bool (ad.isNone != ne)) w:=by
    cases ne with
    |true=>
     rw[if_pos rfl] at hop;subst hop;rw[run_neq_pointer_nil w t ad (QY ht)];cases ad<;>rfl
    |false=>
     rw[if_neg (by simp)] at hop
     subst hop;rw[run_eql_pointer_nil w t ad (QY ht)];cases ad<;>rfl
   simp[execOp,ho,e1,e2,hg,hb]
  cases p1 with
  |nilp=>
   cases hs;have e1:=(Ba hi hkd hy1 hp1 rfl).WX;have:=key _ true e1 rfl;exact⟨_,_,rfl,rfl,this,by cases ne<;>exact .one (.inl (.bool _)),fun _=>trivial⟩
  |vptr v=>
   cases hs;obtain⟨b,off,cv,e1,_⟩:=(Ba hi hkd hy1 hp1 rfl).JR;have:=key _ false e1 rfl;exact⟨_,_,rfl,rfl,this,by cases ne<;>exact .one (.inl (.bool _)),fun _=>trivial⟩
  |ref id off=>
   cases hs;obtain⟨b,_,e1⟩:=(Ba hi hkd hy1 hp1 rfl).Ho;have:=key _ false e1 rfl;exact⟨_,_,rfl,rfl,this,by cases ne<;>exact .one (.inl (.bool _)),fun _=>trivial⟩
  |aptr id gen size i off=>
   cases hs;obtain⟨b,base,n,_,e1⟩:=(Ba hi hkd hy1 hp1 rfl).Ir;have:=key _ false e1 rfl;exact⟨_,_,rfl,rfl,this,by cases ne<;>exact .one (.inl (.bool _)),fun _=>trivial⟩
  |_=>simp[AJ] at hs
 |_=>simp[AJ] at hs
def Gh.give(G:Gh)(b id:Nat)(ab:Nat→Nat→Option (Nat×Nat×Nat)):Gh:=⟨G.I,fun b'=>if b'=b then some (.obj id none) else G.ω b',⟨G.bl.l++[b],ab⟩⟩
theorem Inv.give{w':World}{s b:Nat}{ab:Nat→Nat→Option (Nat×Nat×Nat)}{cs:List PV}(hi:Inv cx G a w A σ)(hk:(cx.kd s).val=true)(hs:s<A.length)(hω:G.ω b=some (.slot s none))
  (he:Ext (fun tg=>tg=.slot s none) G G w w') (hb:Base cx G w') (hab:∀id,id<σ.length→∀g,ab id g=G.bl.ab id g) (habl:∀id g x,ab id g=some x→id<σ.length+1)
  (hobj:Gx (G.give b σ.length ab) w' σ.length cs):Inv cx (G.give b σ.length ab) a w' (A.set s none) (σ++[cs]):=by
 have hle:G.bl.le (G.give b σ.length ab).bl:=⟨Cr _ _,fun id g x h=>by show ab id g=some x;rw[hab id (hi.abl id g x h)];exact h⟩
 have hext:Ext (fun tg=>tg=.slot s none) G (G.give b σ.length ab) w w':=by
  refine⟨he.I,he.same,hle,fun id hid _ g=>hab id (by rw[←hi.len];exact hid) g,fun b' tg h' hn=>?_⟩
  obtain⟨f1,f2,f3⟩:=he.fix b' tg h' hn;refine⟨?_,f2,f3⟩
  have:b'≠b:=by
   rintro rfl
   rw[hω] at h';cases h';exact hn rfl
  simp only[Gh.give,this,if_false];exact f1
 have hbase:Base cx (G.give b σ.length ab) w':=by
  refine { hb with bl:=hi.base.bl.trans hle,own:=fun b' tg h'=>?_ }
  simp only[Gh.give] at h'
  split at h'
  ·rename_i e;subst e;exact hb.own _ _ hω
  ·exact hb.own _ _ h'
 have:=hi.step (fun tg=>tg=.slot s none) none undef hext hbase (A':=A.set s none) (σ':=σ++[cs]) (by simp) (fun t q hq=>?_) (fun id cs' hc=>?_) (by
  show(G.bl.l++[b]).length=_;simp[hi.len]) (fun id g x h=>by rw[AV,List.length_singleton];exact habl id g x h)
 ·exact this
 ·rw[C8] at hq
  split at hq
  ·cases hq
  ·rename_i hc;have hts:t≠s:=fun e=>hc ⟨e,hs⟩
   refine .inl ⟨hq,by simp,fun j h=>by cases h;exact hts rfl,fun _ _ _ _=>by simp,fun m hm=>⟨by simp,fun e=>?_⟩⟩
   cases e;obtain⟨keys,hkm⟩:=cx.ents t s hm;rw[hkm] at hk;simp[SK.val] at hk
 ·by_cases hid:id<σ.length
  ·rw[Ae hid] at hc;exact .inl ⟨hc,fun j h=>by cases h⟩
  ·have:id=σ.length:=by
    have:=(Ab.1 hc).1;simp at this;omega
   subst this;simp at hc;subst hc;exact .inr hobj
theorem Oi{t size n:Nat}{z:PV}(hk:(cx.kd t).val=true):DY cx G a w t (.fresh size n z)↔∃b,at' a t=.slice (some ⟨b,0,none⟩) n n∧Oj G w b (.slot t none) size n z:=by
 unfold DY;cases h:cx.kd t<;>rw[h] at hk<;>first | (simp[SK.val] at hk;done) | exact Iff.rfl
theorem nP(hi:Inv cx G a w A σ)(hkd:∀t,cx.kd t=fi.kind t)(hnt:cx.nt=fi.nt){o:Oper}{t e:TypeId}{l c:Operand}{d:Nat}(ho:o.op=.makeSlice t l c)(hod:o.dst=some d)
  (ht:P.underlying t=some (.slice e)) {it:TypeInfo} (hit:P.info? e=some it) {z:PV} (hz:EP P e=some z) (hs0:0<it.size) (hby:it.bytes≤4096) (hzl:z.cells.length=it.size)
  {az:List Ct} (hc:Aq fi [l,c]=some az) (hd:CJ fi d=true) (hrun:BV pur call { dst:=some d,k:=.p (.mkz it.size z),args:=az } A σ=some (A',σ')):Gives P cx o a w A' σ':=by
 obtain⟨vs,rs,he,hs,rfl,hA⟩:=Gr rfl hrun;obtain⟨y,zs,rfl,hy,hz'⟩:=AL hc;obtain⟨y2,zs,rfl,hy2,hz'⟩:=AL hz';cases hz';obtain⟨p,qs,rfl,hp,hq⟩:=Au he;obtain⟨p2,qs,rfl,hp2,hq⟩:=Au hq;cases hq;obtain⟨hdl,hk⟩:=En hkd hnt hd;cases p with
 |int k1 n=>cases p2 with
  |int k2 m=>
   simp only[AJ] at hs
   split at hs
   case isFalse=>cases hs
   rename_i hcc;obtain⟨rfl,h0,hmax,_,_⟩:=hcc;cases hs;rw[hA rfl];have e1:=(Ba hi hkd hy hp rfl).Db;have e2:=(Ba hi hkd hy2 hp2 rfl).Db;unfold EP at hz;rw[hit] at hz;obtain⟨zv,hzv,hzp⟩:=AO.1 hz;have hzr:∀u:World,Rep G.I u zv z:=fun u=>EN hzp
   obtain⟨r1,_⟩:=FB (hzr w);have hmx:(Cb:Int)=4294967296:=rfl
   have hbb:(it.bytes:Int) * n≤281474976710656:=by
    have h1:(it.bytes:Int) * n≤4096 * n:=Int.mul_le_mul_of_nonneg_right (by omega) h0
    omega
   have hmk:=run_make (P:=P) w t e it zv ht hit hzv k1 k2 n n h0 (Int.le_refl _) hbb (by omega)
   have hr:(execOp a.eval o).run P w=.ok (.value (.slice (some ⟨w.heap.size,0,none⟩) n.toNat n.toNat)) (w.alloc (.cells (madeCells zv.cells (n.toNat * it.size)) e)):=by
    simp only[execOp,ho,e1,e2,Sem.run_bind,hmk,Result.andThen_ok];rfl
   refine .inl ⟨_,_,hr,G.Jr w.heap.size (fun _=>False) (some (.slot d none)),?_⟩
   rw[hod];refine hi.step (fun tg=>tg=.slot d none) (some d) _ (EG _ hi.base _ _ _) (Ep hi.base _ _ _) (by rw[DZ]) ?_ (fun _ cs hc=>.inl ⟨hc,fun _ h=>by cases h⟩) hi.len hi.abl
   intro s q hq;simp only[AOp.wr,Option.toList,Bh,BD,CV] at hq;rw[C8] at hq
   split at hq
   ·rename_i h;cases hq;refine .inr ?_
    rw[h.1,Oi hk];refine⟨w.heap.size,EL _ _ _ (by rw[hi.size];exact hdl),if_pos rfl,?_,hs0,hzl,_,e,heap_alloc_new' _ _,size_madeCells _ _,fun i j u hin hu=>.one (.inl ?_)⟩
    ·rintro x (h | ⟨_,h⟩)
     ·have:=hi.base.lt _ _ h;omega
     ·exact h
    ·have hj:j<it.size:=by rw[←hzl];exact(Ab.1 hu).1
     have hlt:i * it.size+j<n.toNat * it.size:=by
      have:(i+1) * it.size≤n.toNat * it.size:=Bv _ (by omega)
      rw[CK] at this;omega
     have hg:(madeCells zv.cells (n.toNat * it.size)).getD (i * it.size+j) undef=zv.cells.getD j undef:=by
      have hmod:(i * it.size+j) % zv.cells.size=j:=by
       rw[r1,hzl,Nat.add_comm,EA,ES hj]
      have hjs:j<zv.cells.size:=by rw[r1,hzl];exact hj
      rw[Ah,Ah];simp only[madeCells,Eu,Array.getElem?_range,hlt,if_true,Ay,hmod]
      simp[hjs]
     rw[hg];have hzr':=EN (I:=(G.Jr w.heap.size (fun _=>False) (some (.slot d none))).I) (w:=w.alloc (.cells (madeCells zv.cells (n.toNat * it.size)) e)) hzp
     exact(FB hzr').2 j u hu
   ·rename_i h;have hsd:s≠d:=fun e=>h ⟨e,by have:=hi.room;omega⟩
    refine .inl ⟨hq,fun e=>hsd (Option.some.inj e).symm,fun j h=>?_,fun d' off e hbx hdd=>?_,fun m hm=>?_⟩
    ·cases h;exact hsd rfl
    ·have:=Option.some.inj hdd;subst this;rw[hbx] at hk;simp[SK.val] at hk
    ·obtain⟨keys,hkm⟩:=cx.ents s m hm;have:m≠d:=fun e=>by rw[e] at hkm;rw[hkm] at hk;simp[SK.val] at hk
     exact⟨fun e=>this (Option.some.inj e).symm,fun e=>by cases e;exact this rfl⟩
  |_=>simp[AJ] at hs
 |_=>simp[AJ] at hs
theorem fQ{s:Nat}{y:Ct}(hy:EK fi (.tmp s)=some y):y=.slot s:=by
 simp only[EK] at hy
 split at hy<;>first | (split at hy<;>first | (cases hy;rfl) | cases hy) | cases hy
theorem nE(hi:Inv cx G a w A σ)(hkd:∀t,cx.kd t=fi.kind t)(hnt:cx.nt=fi.nt){o:Oper}{s d:Nat}(ho:o.op=.assign (.tmp s))(hod:o.dst=some d)
  {az:List Ct} (hc:Aq fi [.tmp s]=some az) (hd:CJ fi d=true) (hs:CJ fi s=true) (hne:d≠s)
  (hrun:BV pur call { dst:=some d,k:=.w .toA,args:=az,ex:=[s] } A σ=some (A',σ')):Gives P cx o a w A' σ':=by
 obtain⟨vs,rs,he,hsem,hA,_⟩:=Hl hrun;obtain⟨y,zs,rfl,hy,hz⟩:=AL hc;cases hz;obtain⟨p,qs,rfl,hp,hq⟩:=Au he;cases hq;cases fQ hy
 have hg:A.get s=some p:=by
  simp only[BJ] at hp
  split at hp
  ·rename_i v vs hg hv;cases hv;cases hp;exact hg
  ·cases hp
 have hsv:=En hkd hnt hs;have hdv:=En hkd hnt hd;simp only[sem] at hsem;cases p with
 |fresh size n z=>
  simp only[Cq] at hsem;cases hsem;rw[hA rfl];obtain⟨b,hat,hω,hI,h0,hzl,cs,elem,hheap,hsz,hall⟩:=(Oi hsv.2).1 (hi.slot s _ hg)
  let ab:Nat→Nat→Option (Nat×Nat×Nat):=fun id g=>if id=σ.length∧g=0 then some (b,0,n * size) else G.bl.ab id g
  have hnone:∀g,G.bl.ab σ.length g=none:=by
   intro g;cases h:G.bl.ab σ.length g with
   |none=>rfl
   |some y=>have:=hi.abl _ _ _ h;omega
  have hab:∀id,id<σ.length→∀g,ab id g=G.bl.ab id g:=fun id hid g=>if_neg (fun h=>by omega)
  have hle:G.bl.le ⟨G.bl.l++[b],ab⟩:=⟨Cr _ _,fun id g x h=>by show ab id g=some x;rw[hab id (hi.abl id g x h)];exact h⟩
  have hab0:(G.give b σ.length ab).bl.ab σ.length 0=some (b,0,n * size):=if_pos ⟨rfl,rfl⟩
  have hobj:Gx (G.give b σ.length ab) w σ.length [.arrv 0 size (List.replicate n z)]:=by
   refine⟨b,?_,.inr (.inr (.inr (.inl ⟨0,size,_,rfl,b,0,n * size,cs,elem,hab0,fun g hg=>?_,if_pos rfl,hI,hheap,hsz,h0,by simp,fun i e he=>?_⟩)))⟩
   ·show(G.bl.l++[b])[σ.length]?=_;rw[←hi.len];simp
   ·show ab σ.length g=none;simp only[ab];rw[if_neg (by omega)]
    exact hnone g
   ·rw[Cs] at he
    split at he
    case isFalse=>cases he
    rename_i hin;cases he;exact⟨hzl,fun j q hq=>by rw[Bc];exact(hall i j q hin hq).mono (fun _ _ h=>h) (Same.refl _ _) hle⟩
  have hi':=hi.give (ab:=ab) hsv.2 (LK hg) hω (Ext.refl _ _ _) hi.base hab (fun id g x h=>by
   simp only[ab] at h
   split at h
   ·rename_i e;omega
   ·have:=hi.abl id g x h;omega) hobj
  have hval:F6 (G.give b σ.length ab).bl (at' a s) (.arr σ.length 0 0 n size):=by
   rw[hat];exact .arr hab0 (Be _) (by rw[Bc,Bc];exact Be _) (fun _=>⟨rfl,by simp⟩)
  have hput:=hi'.JK (Ext.refl _ _ _) hi'.base rfl (some d) (fun d' e=>by cases e;exact hdv) rfl (.one (.inr hval)) (fun _ _=>trivial)
  refine .inl ⟨at' a s,w,by simp only[execOp,ho];rfl,G.give b σ.length ab,?_⟩
  rw[hod]
  have e1:CV A ({ dst:=some d,k:=.w .toA,args:=[.slot s],ex:=[s] }:AOp).wr ([some (.arr σ.length 0 0 n size),none]++([]:List Nat).map fun _=>none)=GA (A.set s none) (some d) (.arr σ.length 0 0 n size):=by
   show(A.set d _).set s _=(A.set s _).set d _;exact List.set_comm _ _ hne
  rw[e1];exact hput
 |_=>simp[Cq] at hsem
theorem nJ(hi:Inv cx G a w A σ)(hkd:∀t,cx.kd t=fi.kind t){o:Oper}{t:TypeId}{s:Nat}{x:Operand}(ho:o.op=.store t (.tmp s) x)(hod:o.dst=none)(hk:(cx.kd s).val=true){n:Nat}{ag:Bool}(hn:Ci P t=some (n,ag))
  {az:List Ct} (hc:Aq fi [x]=some az) (hrun:BV pur call { dst:=none,k:=.w (.stO n),args:=.slot s::az,ex:=[s] } A σ=some (A',σ')):Gives P cx o a w A' σ':=by
 obtain⟨vs,rs,he,hs,hA,_⟩:=Hl hrun;obtain⟨y,zs,rfl,hy,hz⟩:=AL hc;cases hz;obtain⟨c,qs,rfl,_,hq⟩:=Au he;obtain⟨p,qs,rfl,hp,hq⟩:=Au hq;cases hq;obtain⟨hg,_⟩:=Dr he;simp only[sem] at hs;cases c with
 |hole m=>
  simp only[Cq] at hs
  split at hs
  ·rename_i hf;obtain⟨rfl,hf1,hf2,hf3⟩:=hf;cases hs;rw[hA rfl];obtain⟨b,hb,hω,hI,cs,elem,hheap,hsz⟩:=(LY hk).1 (hi.slot s _ hg);have hrep:=(Ba hi hkd hy hp (Ij hf2)).Ag;have hok:p.Ag.okc=true:=by rw[F7];exact hf2
   have hcl:=IQ.M4 hrep hok;have hvs:(a.eval x).cells.size=m:=by have:=hcl.1;rw[CP,hf1] at this;simpa using this
   have hcells:(cs.toList.take 0++(a.eval x).cells.toList++cs.toList.drop (0+(a.eval x).cells.toList.length)).toArray=(a.eval x).cells:=by
    rw[List.take_zero,Cv (by simp;omega)];simp
   have hrun':=Fp (off:=0) hn hheap hvs (NG hrep hok (by rw[GV];exact hf3)) (by omega)
   rw[hcells] at hrun';have hev:a.eval (.tmp s)=.pointer (some ⟨b,0,none⟩):=hb;have hext:=GJ (G:=G) (w:=w) (X:=fun tg=>tg=.slot s none) hω hI rfl (a.eval x).cells
   have hbase:=Gi hi.base hω hI (a.eval x).cells;have hle:G.bl.le ⟨G.bl.l++[b],G.bl.ab⟩:=⟨Cr _ _,fun _ _ _ h=>h⟩
   have hbl:(G.give b σ.length G.bl.ab).bl.l[σ.length]?=some b:=by
    show(G.bl.l++[b])[σ.length]?=_;rw[←hi.len];simp
   have hobj:Gx (G.give b σ.length G.bl.ab) (w.setRow b (a.eval x).cells) σ.length p.Ag.cells:=by
    refine⟨b,hbl,.inl ⟨if_pos rfl,hI,_,elem,setRow_heap _ _ _ _ _ _ hheap,by rw[CP];omega,fun j q hq=>.inl ⟨?_,EO hq ..⟩⟩⟩
    obtain⟨c,hc1,hc2⟩:=hcl.2 j q hq;rw[Aw] at hc1;rw[Ah,hc1];exact hc2.mono hext.I hext.same hle
   have hi':=hi.give (ab:=G.bl.ab) hk (LK hg) hω hext hbase (fun _ _ _=>rfl) (fun id g x h=>by have:=hi.abl id g x h;omega) hobj
   refine .inr ⟨w.setRow b (a.eval x).cells,by simp[execOp,ho,hev,hrun'],G.give b σ.length G.bl.ab,?_⟩
   rw[hod]
   have hfin:=hi'.reset (d:=s) (p:=.ref σ.length 0) (by
    rw[BL hk rfl];refine⟨.one (.inr ?_),trivial⟩
    show F6 _ (at' a s) _;rw[hb];exact .ref hbl)
   have e1:CV A ({ dst:=none,k:=.w (.stO m),args:=[.slot s,y],ex:=[s] }:AOp).wr ([some (.ref σ.length 0)]++([]:List Nat).map fun _=>none)=(A.set s none).set s (some (.ref σ.length 0)):=by
    show A.set s _=(A.set s _).set s _;rw[List.set_set]
   rw[e1];exact hfin
  ·cases hs
 |_=>simp[Cq] at hs
theorem oN(hi:Inv cx G a w A σ)(hkd:∀t,cx.kd t=fi.kind t)(hnt:cx.nt=fi.nt){o:Oper}{t e:TypeId}{n:Nat}{ps:Array (Nat×Operand)}(ho:o.op=.buildSlice t n ps){d:Nat}(hod:o.dst=some d)
  (ht:P.underlying t=some (.slice e)) {size:Nat} {ag:Bool} (hsz:Ci P e=some (size,ag)) (hord:Kt 0 ps.toList=true) (hn:ps.size=n) (hn':n≤1000) (hs0:0<size) (hs1:size≤100)
  (hz:(P.info? e).any (·.zero.isSome)=true)
  {az:List Ct} (hc:Aq fi (ps.toList.map (·.2))=some az) (hd:CJ fi d=true) (hrun:BV pur call { dst:=some d,k:=.w (.bsA size),args:=az } A σ=some (A',σ')):Gives P cx o a w A' σ':=by
 obtain⟨vs,rs,he,hs,hA,_⟩:=Hl hrun;simp only[sem,Cq] at hs
 split at hs
 case isFalse=>cases hs
 rename_i hcond;obtain⟨hne,hall⟩:=hcond;cases hs;rw[hA rfl];rw[Ao] at hall
 have hall':∀p∈vs,p.cells.length=size∧p.okc=true∧p.ones=true:=fun p hp=>by
  have:=hall p hp;simp only[Ak,beq_iff_eq] at this;exact⟨this.1.1,this.1.2,this.2⟩
 obtain⟨hl,hrep⟩:=Oc hi hkd hc he (fun p hp=>Ij (hall' p hp).2.1)
 have hl':ps.size=vs.length:=by simpa using hl
 have hpart:∀(i:Nat) (x:Nat×Operand) (p:PV),ps.toList[i]?=some x→vs[i]?=some p→IQ G.I G.bl w (a.eval x.2).cells.toList p.Ag.cells:=fun i x p hx hp=>
  IQ.M4 (hrep i x.2 p (by rw[Af,hx];rfl) hp).Ag (by rw[F7];exact(hall' p (AA hp)).2.1)
 have hsize:∀x∈ps.toList,(a.eval x.2).cells.size=size:=by
  intro x hx;obtain⟨i,hix⟩:=Bb.1 hx;have hlt:i<vs.length:=by have:=(Ab.1 hix).1;simp at this;omega
  have hp:=Ad hlt;have:=(hpart i x _ hix hp).1;rw[CP,(hall' _ (AQ hlt)).1] at this;simpa using this
 obtain⟨it,hit,hzs⟩:∃it,P.info? e=some it∧it.zero.isSome=true:=by
  cases h:P.info? e with
  |none=>rw[h] at hz;simp at hz
  |some it=>rw[h] at hz;exact⟨it,rfl,by simpa using hz⟩
 obtain⟨zv,hzv⟩:=CW.1 hzs
 let zero:Array Value:=if n * size=0 then #[] else zv.cells
 let cells0:Array Value:=(Array.range (n * size)).map (zero[· % zero.size]!)
 obtain⟨cells,hfill,hcells⟩:=Nj a.eval ps.toList 0 [] cells0.toList cells0 hord (by simp) (by simp) (by simp[cells0,hn]) hsize
 simp only[BK] at hcells
 have hlenc:cells.size=n * size:=by
  have:=congrArg List.length hcells;rw[R4 _ (by intro v hv;obtain⟨x,hx,rfl⟩:=Ce.1 hv;exact hsize x hx)] at this
  simpa [hn] using this
 have hvn:vs.length=n:=by omega
 rw[hvn]
 have hr:(execOp a.eval o).run P w=.ok (.value (.slice (some ⟨w.heap.size,0,none⟩) n n)) (w.alloc (.cells cells e)):=by
  have h24:¬(n * size>2 ^ 24):=by
   have:n * size≤1000 * 100:=Nat.mul_le_mul hn' hs1;omega
  have hf':Instr.fill (fun i=>some (i * size,size)) cells0 (ps.map fun x=>(x.1,a.eval x.2)).toList=some cells:=by
   rw[Array.toList_map];exact hfill
  simp only[cells0] at hf';have hzr:(zeroValue e).run P w=.ok zv w:=by simp[zeroValue,typeInfo,hit,hzv]
  by_cases h0:n * size=0
  ·have hz0:zero=#[]:=by simp[zero,h0]
   rw[hz0] at hf';simp only[execOp,ho,Instr.buildSlice,Sem.run_bind,underlying,run_program,ht,Result.andThen_ok,Sem.run_pure,run_sizeOf hsz,if_neg h24,if_pos h0,newRow,run_newObj];rw[hf'];rfl
  ·have hz0:zero=zv.cells:=by simp only[zero,if_neg h0]
   rw[hz0] at hf';simp only[execOp,ho,Instr.buildSlice,Sem.run_bind,underlying,run_program,ht,Result.andThen_ok,Sem.run_pure,run_sizeOf hsz,if_neg h24,if_neg h0,hzr,newRow,run_newObj];rw[hf'];rfl
 refine NK hi (En hkd hnt hd) hod (Ext.refl _ _ _) hi.base hs0 (Be _) hlenc (by simpa using hvn) (fun i q hq=>?_) hr
 rw[Af] at hq;obtain⟨p,hp,rfl⟩:=Ac.1 hq;have hlt:i<ps.size:=by have:=(Ab.1 hp).1;omega
 have hx:ps.toList[i]?=some ps[i]:=by rw[Aw];exact Az hlt
 have hcl:=(hall' p (AA hp)).1;refine⟨by rw[CP];exact hcl,fun j u hu=>?_⟩
 have hjl:j<size:=by have:=(Ab.1 hu).1;rw[CP,hcl] at this;exact this
 obtain⟨c,hc1,hc2⟩:=(hpart i _ p hx hp).2 j u hu
 have hce:cells[i * size+j]?=some c:=by
  rw[←Aw,hcells,flat_get _ i j _ (by intro v hv;obtain⟨x,hx,rfl⟩:=Ce.1 hv;exact hsize x hx) (by rw[Af,hx];rfl) hjl,←Aw]
  exact hc1
 rw[Bc,Ah,hce];exact hc2
theorem nL(hi:Inv cx G a w A σ)(hkd:∀t,cx.kd t=fi.kind t)(hnt:cx.nt=fi.nt){o:Oper}{t kt et:TypeId}{x:Operand}(ho:o.op=.range t x)(ht:P.underlying t=some (.map kt et)){d:Nat}(hod:o.dst=some d)(hd:CJ fi d=true)
  {az:List Ct} (hc:Aq fi [x]=some az) (hrun:BV pur call { dst:=some d,k:=.w .rgM,args:=az } A σ=some (A',σ')):Gives P cx o a w A' σ':=by
 obtain⟨vs,rs,he,hs,hA,_⟩:=Hl hrun;obtain⟨y,zs,rfl,hy,hz⟩:=AL hc;cases hz;obtain⟨p,qs,rfl,hp,hq⟩:=Au he;cases hq;simp only[sem] at hs;cases p with
 |mref mid=>
  simp only[Cq] at hs
  split at hs
  case h_2=>cases hs
  rename_i d' z' ks ws hm;cases hs;rw[hA rfl];obtain⟨hdl,hk⟩:=En hkd hnt hd;obtain⟨_,m,hm',hω2,hI2,⟨hlen,hall⟩,es,hes,hsz,hent⟩:=Jz hi hm;obtain⟨b',hb2,ev⟩:=(Ba hi hkd hy hp rfl).Ik;rw[hm'] at hb2;cases hb2
  let ob:Obj:=.mapIter (some m) ks.length #[] ks.length
  refine .inl ⟨.pointer (some ⟨w.heap.size,0,none⟩),w.alloc ob,by
   simp only[execOp,ho,ev];have:=run_range_map (P:=P) w t kt et m es es.size ht hes;rw[hsz] at this;simp[this,ob],?_⟩
  rw[hod]
  let G1:=G.Jr w.heap.size (fun _=>False) (some (.obj σ.length none))
  let G':Gh:={ G1 with bl:=⟨G.bl.l++[w.heap.size],G.bl.ab⟩ }
  have hext1:=EG (fun _=>False) hi.base ob (fun _=>False) (some (.obj σ.length none))
  have hext:Ext (fun _=>False) G G' w (w.alloc ob):=⟨hext1.I,hext1.same,⟨Cr _ _,fun _ _ _ h=>h⟩,fun _ _ _ _=>rfl,hext1.fix⟩
  have hb1:=Ep hi.base ob (fun _=>False) (some (.obj σ.length none))
  have hbase:Base cx G' (w.alloc ob):={ hb1 with bl:=hi.base.bl.trans ⟨Cr _ _,fun _ _ _ h=>h⟩ }
  have hbl:G'.bl.l[σ.length]?=some w.heap.size:=by
   show(G.bl.l++[w.heap.size])[σ.length]?=_;rw[←hi.len];simp
  refine⟨G',hi.step _ (some d) _ hext hbase (by simp[CV,AOp.wr]) ?_ ?_ ?_ (fun id g x h=>by have:=hi.abl id g x h;simp;omega)⟩
  ·intro s q hq;simp only[AOp.wr,Option.toList,Bh,BD,CF,BK,CV] at hq;rw[C8] at hq
   split at hq
   ·rename_i hc;cases hq;refine .inr ?_
    rw[hc.1,BL hk rfl,EL _ _ _ (by rw[hi.size];exact hdl)]
    exact⟨.one (.inr (.ref hbl)),trivial⟩
   ·rename_i hc;have hsd:s≠d:=fun e=>hc ⟨e,by have:=hi.room;omega⟩
    refine .inl ⟨hq,fun e=>hsd (Option.some.inj e).symm,fun j h=>h,fun d' off e hbx hdd=>?_,fun m hm=>⟨fun e=>?_,fun h=>h⟩⟩
    ·cases hdd;rw[hbx] at hk;simp[SK.val] at hk
    ·cases e;obtain⟨keys,hkm⟩:=cx.ents s d hm;rw[hkm] at hk;simp[SK.val] at hk
  ·intro id cs' hc;by_cases hid:id<σ.length
   ·rw[Ae hid] at hc;exact .inl ⟨hc,fun _ h=>h⟩
   ·have:id=σ.length:=by
     have:=(Ab.1 hc).1;simp at this;omega
    subst this;simp at hc;subst hc;refine .inr ⟨w.heap.size,hbl,.inr (.inr (.inr (.inr (.inr ⟨mid,ks.length,[],rfl,if_pos rfl,?_,m,?_,heap_alloc_new' _ _⟩))))⟩
    ·rintro x (h | ⟨_,h⟩)
     ·have:=hi.base.lt _ _ h;omega
     ·exact h
    ·show(G.bl.l++[w.heap.size])[mid]?=_;rw[Ae (Ab.1 hm').1];exact hm'
  ·show(G.bl.l++[w.heap.size]).length=_;simp[hi.len]
 |_=>simp[Cq] at hs
end
end Go.Abs
