/- A part of the proof: A39 A40 A41 A28 A29. -/
import Derived.Test.YtapgnmhobbgmiaaGreatDoorKab
import Derived.Laws.StructEq
import Derived.ChangeKeysEq
import Derived.Test.YtapgnmhobbgmiaaGreatDoorKae

set_option linter.unusedVariables false
set_option linter.unusedSimpArgs false
namespace Go.Abs
open Go.RowKit
section
variable{P:Program}{pur:FuncId→Bool}{call:Caller}{fi:FI}{cx:Cx}{G:Gh}{a:Act}{w:World}{A A':Frm}{σ σ':Sto}
theorem dD(t:Nat)(ts:List Nat)(ys:List PV):eqL (t::ts) [] ys=none:=rfl
theorem dC(t:Nat)(ts:List Nat)(xs:List PV):eqL (t::ts) xs []=none:=by cases xs<;>rfl
theorem J3{e:TypeId}{k:Nat}(h:LZ P e=some k):P.plainKey e=true:=by
 unfold LZ at h;unfold Program.plainKey
 split at h<;>simp_all
theorem ja{e:TypeId}{k:Nat}(h:LZ P e=some k){x y:PV}{b:Bool}(he:eqC k x y=some b){I:Imm}{v u:Value}(hx:Rep I w v x)(hy:Rep I w u y)(d:Nat):(Op.equalIn (d+1) e v u).run P w=.ok b w:=by
 unfold LZ at h;cases x with
 |int k1 a1=>
  cases y with
  |int k2 a2=>
   simp only[eqC] at he
   split at he
   ·rename_i hc;obtain⟨rfl,rfl⟩:=hc;cases he;cases hx;cases hy
    split at h
    ·rename_i ki hu;exact run_equalIn_int w d e _ _ _ _ hu
    ·cases h
    ·cases h
    ·cases h
   ·cases he
  |_=>simp[eqC] at he
 |bool a1=>
  cases y with
  |bool a2=>
   simp only[eqC] at he
   split at he
   ·rename_i hc;subst hc;cases he;cases hx;cases hy
    split at h
    ·cases h
    ·rename_i hu;exact run_equalIn_bool w d e _ _ hu
    ·cases h
    ·cases h
   ·cases he
  |_=>simp[eqC] at he
 |str a1=>
  cases y with
  |str a2=>
   simp only[eqC] at he
   split at he
   ·rename_i hc;subst hc;cases he;cases hx with
    |str s1=>cases hy with
     |str s2=>
      split at h
      ·cases h
      ·cases h
      ·rename_i hu;rw[run_equalIn_string w d e _ _ hu,CZ,CZ]
      ·cases h
   ·cases he
  |_=>simp[eqC] at he
 |_=>simp[eqC] at he
theorem TU:∀(fs:List Field) (i:Nat) (ts:List Nat),KX P i fs=some ts→ts.length=fs.length∧∀(j:Nat) (f:Field),fs[j]?=some f→f.name ≠ "_" ∧ f.offset=i+j∧∃k,LZ P f.type=some k∧ts[j]?=some k
 |[],i,ts,h=>by cases h;exact⟨rfl,fun j f h=>by simp at h⟩
 |f::fs,i,ts,h=>by
  rw[KX] at h
  split at h
  ·rename_i k ks hk hks
   split at h
   ·rename_i hc;cases h;rw[Ai,bne_iff_ne,beq_iff_eq] at hc;obtain⟨h1,h2⟩:=TU fs (i+1) ks hks;refine⟨by simp[h1],fun j g hg=>?_⟩
    cases j with
    |zero=>simp at hg;subst hg;exact⟨hc.1,hc.2,k,hk,rfl⟩
    |succ j=>
     obtain⟨q1,q2,q3⟩:=h2 j g (by simpa using hg)
     exact⟨q1,by omega,by simpa using q3⟩
   ·cases h
  ·cases h
theorem Su(d:Nat){xs ys:List PV}{cx cy:Array Value}{I:Imm}(h1:cx.size=xs.length)(h2:cy.size=ys.length)(hx:∀(i:Nat) (p:PV),xs[i]?=some p→Rep I w (cx.getD i undef) p)(hy:∀(i:Nat) (p:PV),ys[i]?=some p→Rep I w (cy.getD i undef) p):
  ∀(fs:List Field) (i:Nat) (ts:List Nat) (b:Bool),KX P i fs=some ts→eqL ts (xs.drop i) (ys.drop i)=some b→(Op.eqFields (d+1) cx cy fs).run P w=.ok b w
 |[],i,ts,b,hf,he=>by
  cases hf;simp only[eqL] at he;cases he;simp[Op.eqFields]
 |f::fs,i,ts,b,hf,he=>by
  rw[KX] at hf
  split at hf
  ·rename_i k ks hk hks
   split at hf
   ·rename_i hc;cases hf;rw[Ai,bne_iff_ne,beq_iff_eq] at hc;rcases Bc i xs.length with hi | hi
    ·rcases Bc i ys.length with hj | hj
     ·rw[Cq hi,Cq hj,eqL] at he;have r1:=hx i _ (Ah hi);have r2:=hy i _ (Ah hj);have c1:cx[i]?=some (cx.getD i undef):=by rw[Aj,AJ (by omega)];rfl
      have c2:cy[i]?=some (cy.getD i undef):=by rw[Aj,AJ (by omega)];rfl
      generalize cx.getD i undef=u1 at r1 c1;generalize cy.getD i undef=u2 at r2 c2;have p1:=run_part_plain (w:=w) (J3 hk) c1;have p2:=run_part_plain (w:=w) (J3 hk) c2;rw[←hc.2] at p1 p2;cases hb:eqC k xs[i] ys[i] with
      |none=>rw[hb] at he;cases he
      |some b1=>
       have e1:=ja (w:=w) hk hb r1 r2 d;rw[hb] at he;cases b1 with
       |true=>
        have ih:=Su d h1 h2 hx hy fs (i+1) ks b hks he;simp[Op.eqFields,hc.1,p1,p2,e1,ih]
       |false=>
        cases he;simp[Op.eqFields,hc.1,p1,p2,e1]
     ·rw[Cf hj,dC] at he;cases he
    ·rw[Cf hi,dD] at he;cases he
   ·cases hf
  ·cases hf
theorem OY(d:Nat){e:TypeId}{k:Nat}(hk:LZ P e=some k){it:TypeInfo}(hit:P.info? e=some it)(hc1:P.cellsOf e=1){xs ys:List PV}{cx cy:Array Value}{I:Imm}(h1:cx.size=xs.length)(h2:cy.size=ys.length)(hx:∀(i:Nat) (p:PV),xs[i]?=some p→Rep I w (cx.getD i undef) p)(hy:∀(i:Nat) (p:PV),ys[i]?=some p→Rep I w (cy.getD i undef) p):
  ∀(n i:Nat) (b:Bool),eqL (List.replicate n k) (xs.drop i) (ys.drop i)=some b→(Op.eqItems (d+1) e 1 cx cy (List.range' i n)).run P w=.ok b w
 |0,i,b,he=>by
  simp only[List.replicate_zero,eqL] at he;cases he;simp[Op.eqItems]
 |n+1,i,b,he=>by
  rw[List.replicate_succ] at he;rcases Bc i xs.length with hi | hi
  ·rcases Bc i ys.length with hj | hj
   ·rw[Cq hi,Cq hj,eqL] at he;have r1:=hx i _ (Ah hi);have r2:=hy i _ (Ah hj);have c1:cx[i]?=some (cx.getD i undef):=by rw[Aj,AJ (by omega)];rfl
    have c2:cy[i]?=some (cy.getD i undef):=by rw[Aj,AJ (by omega)];rfl
    generalize cx.getD i undef=u1 at r1 c1;generalize cy.getD i undef=u2 at r2 c2;have p1:=run_part_plain (w:=w) (J3 hk) c1;have p2:=run_part_plain (w:=w) (J3 hk) c2;rw[List.range'_succ];cases hb:eqC k xs[i] ys[i] with
    |none=>rw[hb] at he;cases he
    |some b1=>
     have e1:=ja (w:=w) hk hb r1 r2 d;rw[hb] at he;cases b1 with
     |true=>
      have ih:=OY d hk hit hc1 h1 h2 hx hy n (i+1) b he;simp[Op.eqItems,p1,p2,e1,ih]
     |false=>
      cases he;simp[Op.eqItems,p1,p2,e1]
   ·rw[Cf hj,dC] at he;cases he
  ·rw[Cf hi,dD] at he;cases he
theorem QR{t:TypeId}{ts:List Nat}(h:MU P t=some ts){xs ys:List PV}{cx cy:Array Value}{I:Imm}(h1:cx.size=xs.length)(h2:cy.size=ys.length)(hx:∀(i:Nat) (p:PV),xs[i]?=some p→Rep I w (cx.getD i undef) p)(hy:∀(i:Nat) (p:PV),ys[i]?=some p→Rep I w (cy.getD i undef) p)
  {b:Bool} (he:eqL ts xs ys=some b):(Op.equalIn 10000 t (.agg cx) (.agg cy)).run P w=.ok b w∧P.eqGuardType P.depth t=false:=by
 unfold MU at h
 split at h
 ·cases h
 rename_i hs;rw[Ff,DZ] at hs;refine⟨?_,hs.2⟩
 split at h
 ·rename_i fs hu;have hfo:P.fieldsOf t=fs:=by simp[Program.fieldsOf,hu]
  rw[run_equalIn_struct w 9999 t cx cy (by rw[hfo];exact hu) hs.1,hfo]
  exact Su 9998 h1 h2 hx hy fs.toList 0 ts b h (by simpa using he)
 ·rename_i n e hu;obtain⟨k,hk,rfl⟩:=Ac.1 h
  split at hk
  ·rename_i hc
   obtain⟨it,hit⟩:=info_of_underlying (show P.underlying e=some ((P.underlying e).getD default) by
    unfold LZ at hk
    split at hk<;>simp_all)
   rw[run_equalIn_array w 9999 cx cy hu hit,hc,List.range_eq_range'];exact OY 9998 hk hit hc h1 h2 hx hy n 0 b (by simpa using he)
  ·cases hk
 ·cases h
theorem V6:∀{cs:List PV} {l:List (IntKind×Int)},OA cs=some l→cs=l.map fun x=>PV.int x.1 x.2
 |[],l,h=>by cases h;rfl
 |c::cs,l,h=>by
  cases hl:OA cs with
  |none=>simp[OA,hl] at h
  |some l'=>
   cases c with
   |int k n=>
    simp only[OA,hl] at h;cases h;rw[V6 hl];rfl
   |_=>simp[OA] at h
theorem Pv{d:KD}{p:PV}{x:Kx}(h:Tw d p=some x){v:Value}{I:Imm}{bl:Bl}(hr:Bz I bl w v p):v=x.val∧JA d x=true:=by
 cases d with
 |i k0=>
  cases p with
  |int k n=>
   simp only[Tw] at h
   split at h
   ·rename_i e;cases h;subst e;exact⟨hr.CF,by simp[JA]⟩
   ·cases h
  |_=>cases h
 |s=>
  cases p with
  |str l=>
   cases h;obtain⟨s,rfl,rfl⟩:=hr.EU;cases s;exact⟨rfl,rfl⟩
  |_=>cases h
 |a ks=>
  cases p with
  |agg cs=>
   simp only[Tw] at h
   split at h
   ·rename_i l hl
    split at h
    case isFalse=>cases h
    rename_i hn;cases h;have e:=V6 hl;obtain⟨vs,rfl,h1,h2⟩:=hr.RO;refine⟨?_,by simp only[JA,beq_iff_eq];exact hn⟩
    show Value.agg vs=.agg _;congr 1;apply Cj.1;refine Ez fun i=>?_
    rw[Ay,Am];rw[e] at h1 h2;rw[Aq] at h1;rcases Bc i l.length with hi | hi
    ·have:=h2 i (.int l[i].1 l[i].2) (by rw[Am,Ah hi];rfl)
     rw[Aj,AJ (by omega),Ei] at this
     rw[AJ (by omega),Ah hi]
     have hh:=(Bz.one (bl:=Bl.nil) (.inl this)).CF;simp only[AO];rw[hh]
    ·rw[Di (by omega),BD hi];rfl
   ·cases h
  |_=>cases h
theorem RL{d:KD}{p:PV}{x:Kx}(h:Tw d p=some x):p.free=true:=by
 cases d<;>cases p<;>first | rfl | cases h
theorem Li:∀{ks:List Kx} {x:Kx} {j:Nat},GY x ks=some j→ks[j]?=some x
 |[],x,j,h=>by cases h
 |k::ks,x,j,h=>by
  rw[GY] at h
  split at h
  ·rename_i e;cases h;rw[e];rfl
  ·obtain⟨i,hi,rfl⟩:=Ac.1 h;simpa using Li hi
theorem dE:∀(l l':List (IntKind×Int)),l.map (·.1)=l'.map (·.1)→eqL (List.replicate l.length 0) (l.map fun x=>PV.int x.1 x.2) (l'.map fun x=>PV.int x.1 x.2)=some (decide (l'=l))
 |[],[],_=>by simp[eqL]
 |[],_::_,h=>by simp at h
 |_::_,[],h=>by simp at h
 |(k,a)::l,(k',b)::l',h=>by
  simp only[Bv,List.cons.injEq] at h;obtain⟨rfl,h⟩:=h;have ih:=dE l l' h;simp only[Al,List.replicate_succ,Bv,eqL,eqC];rw[if_pos ⟨trivial,trivial⟩];by_cases hab:a=b
  ·subst hab;simp[ih]
  ·rw[show(a==b)=false from beq_false_of_ne hab]
   simp[Ne.symm hab]
theorem TT:∀(fs:List Field) (i:Nat) (ts:List Nat) (ks:List IntKind),KX P i fs=some ts→YL P fs=some ks→ts=List.replicate ks.length 0
 |[],i,ts,ks,h,h'=>by cases h;cases h';rfl
 |f::fs,i,ts,ks,h,h'=>by
  rw[KX] at h
  split at h
  ·rename_i k us hk hus
   split at h
   ·cases h;unfold YL at h'
    split at h'
    ·rename_i ki kr hu hkr;cases h';rw[TT fs (i+1) us kr hus hkr,Al,List.replicate_succ];have:LZ P f.type=some 0:=by unfold LZ;rw[hu]
     rw[this] at hk;cases hk;rfl
    ·cases h'
   ·cases h
  ·cases h
theorem YN{kt:TypeId}{ks:List IntKind}(h:NJ P kt=some (.a ks)):∃fs,P.underlying kt=some (.struct fs)∧MU P kt=some (List.replicate ks.length 0):=by
 unfold NJ at h
 split at h
 ·cases h
 ·cases h
 ·rename_i fs hu
  split at h
  ·rename_i ts ks' ht hks;cases h;refine⟨fs,hu,?_⟩
   rw[ht];unfold MU at ht
   split at ht
   ·cases ht
   rw[hu] at ht;rw[TT _ 0 ts ks ht hks]
  ·cases h
 ·cases h
theorem bU{kt:TypeId}{d:KD}(h:NJ P kt=some d):(∃k,d=.i k∧P.underlying kt=some (.int k))∨(d=.s∧P.underlying kt=some .string)∨∃n,d=.a n:=by
 unfold NJ at h
 split at h
 ·rename_i k hu;cases h;exact .inl ⟨k,rfl,hu⟩
 ·rename_i hu;cases h;exact .inr (.inl ⟨rfl,hu⟩)
 ·split at h
  ·cases h;exact .inr (.inr ⟨_,rfl⟩)
  ·cases h
 ·cases h
theorem ZT{I:Imm}(l:List (IntKind×Int)):∀(i:Nat) (p:PV),(l.map fun x=>PV.int x.1 x.2)[i]?=some p→Rep I w ((l.map fun x=>Value.int x.1 x.2).toArray.getD i undef) p:=by
 intro i p hp;rw[Am] at hp;obtain⟨x,hx,rfl⟩:=Ac.1 hp;rw[Aj,Dw,Am,hx];exact .int _ _
theorem oP{kt:TypeId}{n:List IntKind}(h:NJ P kt=some (.a n)){l l':List (IntKind×Int)}(hl:l.map (·.1)=n)(hl':l'.map (·.1)=n):(Op.equal kt (Kx.a l).val (Kx.a l').val).run P w=.ok (decide (Kx.a l'=Kx.a l)) w:=by
 obtain⟨fs,hu,ht⟩:=YN h;have hs:l.map (·.1)=l'.map (·.1):=hl.trans hl'.symm;have hn:n.length=l.length:=by rw[←hl];simp
 have:=(QR (w:=w) (I:=fun _ _=>False) ht (xs:=l.map fun x=>PV.int x.1 x.2) (ys:=l'.map fun x=>PV.int x.1 x.2) (cx:=(l.map fun x=>Value.int x.1 x.2).toArray) (cy:=(l'.map fun x=>Value.int x.1 x.2).toArray)
  (by simp) (by simp) (ZT l) (ZT l') (by rw[hn];exact dE l l' hs)).1
 have e:decide (Kx.a l'=Kx.a l)=decide (l'=l):=by
  by_cases hh:l'=l
  ·subst hh;simp
  ·simp[hh]
 rw[e];exact this
theorem L6(em:Bool)(d:Nat)(cs:Array Value):∀(fs:List Field) (i:Nat) (ts:List Nat),KX P i fs=some ts→i+fs.length≤cs.size→
  (forIn fs PUnit.unit (fun f _=>if f.name ≠ "_" then(do
   let x ← part f.type cs f.offset
   Instr.checkKey em (d+1) f.type x
   pure (ForInStep.yield PUnit.unit)) else pure (ForInStep.yield PUnit.unit)):Sem PUnit).run P w=.ok PUnit.unit w
 |[],i,ts,_,_=>by simp
 |f::fs,i,ts,h,hl=>by
  rw[KX] at h
  split at h
  ·rename_i k ks hk hks
   split at h
   ·rename_i hc;rw[Ai,bne_iff_ne,beq_iff_eq] at hc;simp only[Al] at hl;have ih:=L6 em d cs fs (i+1) ks hks (by omega)
    have p1:=run_part_plain (w:=w) (J3 hk) (show cs[f.offset]?=some cs[f.offset] from AJ (by omega))
    have p2:(Instr.checkKey em (d+1) f.type cs[f.offset]).run P w=.ok () w:=by
     unfold LZ at hk
     split at hk
     ·rename_i hu;simp[Instr.checkKey,underlying,hu]
     ·rename_i hu;simp[Instr.checkKey,underlying,hu]
     ·rename_i hu;simp[Instr.checkKey,underlying,hu]
     ·cases hk
    simp only[List.forIn_cons,Sem.run_bind,hc.1,ne_eq,not_false_eq_true,if_true,Result.andThen_ok,p1,p2,Sem.run_pure];exact ih
   ·cases h
  ·cases h
theorem Kz(em:Bool){kt:TypeId}{d:KD}(h:NJ P kt=some d){x:Kx}(hx:JA d x=true):(Instr.checkKey em 10000 kt x.val).run P w=.ok () w:=by
 rcases bU h with⟨k,rfl,hu⟩ | ⟨rfl,hu⟩ | ⟨n,rfl⟩
 ·exact run_checkKey hu (.inl ⟨k,rfl⟩) _
 ·exact run_checkKey hu (.inr rfl) _
 ·obtain⟨fs,hu,ht⟩:=YN h;cases x with
  |a l=>
   simp only[JA,beq_iff_eq] at hx;have hn:n.length=l.length:=by rw[←hx];simp
   unfold MU at ht
   split at ht
   ·cases ht
   rw[hu] at ht;dsimp only at ht;have hlen:=(TU fs.toList 0 _ ht).1;rw[List.length_replicate] at hlen;show(Instr.checkKey em (9998+1+1) kt (.agg (l.map fun x=>Value.int x.1 x.2).toArray)).run P w=_
   rw[Instr.checkKey];simp only[Sem.run_bind,run_underlying hu,Result.andThen_ok];rw[←Array.forIn_toList]
   have h9:=L6 (w:=w) em 9998 (l.map fun x=>Value.int x.1 x.2).toArray fs.toList 0 _ ht (by
    rw[BX,Aq];omega)
   rw[h9,Result.andThen_ok,Sem.run_pure]
  |_=>simp[JA] at hx
theorem OI{desc:TypeDesc}{d:KD}(hd:(∃k,desc=.int k∧d=.i k)∨desc=.string∧d=.s){x:Kx}(hx:JA d x=true):∀(es:List MapEntry) (ks:List Kx) (s:Nat),es.map (·.key)=ks.map Kx.val→ks.all (JA d)=true→
  Instr.findNow desc x.val es s=some ((GY x ks).bind fun j=>(es[j]?).map fun e=>(s+j,e.val))
 |[],[],s,_,_=>rfl
 |[],_::_,s,h,_=>by simp at h
 |_::_,[],s,h,_=>by simp at h
 |e::es,k::ks,s,h,hs=>by
  simp only[Bv,List.cons.injEq] at h;simp only[Dr,Ai] at hs;have ih:=OI hd hx es ks (s+1) h.2 hs.2
  have key:Instr.sameNow desc x.val e.key=some (decide (k=x)):=by
   rw[h.1];rcases hd with⟨k0,rfl,rfl⟩ | ⟨rfl,rfl⟩
   ·cases x with
    |i k1 a=>
     cases k with
     |i k2 b=>
      have hk1:k1=k0:=by simpa [JA] using hx
      have hk2:k2=k0:=by simpa [JA] using hs.1
      subst hk1;subst hk2;simp only[Kx.val,Instr.sameNow,if_true];by_cases hab:a=b
      ·subst hab;simp
      ·simp[hab,Ne.symm hab]
     |_=>simp[JA] at hs
    |_=>simp[JA] at hx
   ·cases x with
    |s a=>
     cases k with
     |s b=>
      simp only[Kx.val,Instr.sameNow,beq_toListBytes,CZ];by_cases hab:a=b
      ·subst hab;simp
      ·simp[hab,Ne.symm hab]
     |_=>simp[JA] at hs
    |_=>simp[JA] at hx
  rw[Instr.findNow,key,GY];by_cases hkx:k=x
  ·simp[hkx]
  ·rw[if_neg hkx,decide_eq_false hkx];dsimp only;rw[ih];cases GY x ks with
   |none=>rfl
   |some j=>simp[Er 1 j,Dq]
theorem QQ{kt:TypeId}{n:List IntKind}(h:NJ P kt=some (.a n)){l:List (IntKind×Int)}(hl:l.map (·.1)=n):∀(es:List MapEntry) (ks:List Kx) (s:Nat),es.map (·.key)=ks.map Kx.val→ks.all (JA (.a n))=true→
  (Instr.findAsking kt (Kx.a l).val es s).run P w=.ok ((GY (.a l) ks).bind fun j=>(es[j]?).map fun e=>(s+j,e.val)) w
 |[],[],s,_,_=>by simp[Instr.findAsking,GY]
 |[],_::_,s,h,_=>by simp at h
 |_::_,[],s,h,_=>by simp at h
 |e::es,k::ks,s,he,hs=>by
  simp only[Bv,List.cons.injEq] at he;simp only[Dr,Ai] at hs;have ih:=QQ h hl es ks (s+1) he.2 hs.2;cases k with
  |a l'=>
   have hk:l'.map (·.1)=n:=by simpa [JA] using hs.1
   have e1:=oP (w:=w) h hl hk;rw[Instr.findAsking,GY];simp only[Sem.run_bind,he.1,e1,Result.andThen_ok];by_cases hkx:Kx.a l'=Kx.a l
   ·simp[hkx]
   ·rw[if_neg hkx,decide_eq_false hkx];simp only[Bool.false_eq_true,if_false];rw[ih];cases GY (.a l) ks with
    |none=>rfl
    |some j=>simp[Er 1 j,Dq]
  |_=>simp[JA] at hs
theorem LA{kt:TypeId}{d:KD}(h:NJ P kt=some d){x:Kx}(hx:JA d x=true){es:List MapEntry}{ks:List Kx}(he:es.map (·.key)=ks.map Kx.val)(hs:ks.all (JA d)=true):
  (Instr.findKey kt x.val es).run P w=.ok ((GY x ks).bind fun j=>(es[j]?).map fun e=>(j,e.val)) w:=by
 rcases bU h with⟨k,rfl,hu⟩ | ⟨rfl,hu⟩ | ⟨n,rfl⟩
 ·have:=OI (.inl ⟨k,rfl,rfl⟩) hx es ks 0 he hs;simp only[Bq] at this;simp[Instr.findKey,underlying,hu,this]
 ·have:=OI (.inr ⟨rfl,rfl⟩) hx es ks 0 he hs;simp only[Bq] at this;simp[Instr.findKey,underlying,hu,this]
 ·obtain⟨fs,hu,ht⟩:=YN h;cases x with
  |a l=>
   have hx':l.map (·.1)=n:=by simpa [JA] using hx
   have ha:=QQ (w:=w) h hx' es ks 0 he hs;simp only[Bq] at ha;cases es with
   |nil=>
    cases ks with
    |nil=>simp[Instr.findKey,underlying,hu,Instr.findNow,GY]
    |cons _ _=>simp at he
   |cons e es=>
    have hn:Instr.findNow (.struct fs) (Kx.a l).val (e::es) 0=none:=by
     rw[Instr.findNow];simp[Instr.sameNow]
    simp[Instr.findKey,underlying,hu,hn,ha]
  |_=>simp[JA] at hx
theorem Vy{x y:PV}(h:Wx x y=true):x=y:=by
 cases x<;>cases y<;>simp_all [Wx]
theorem Vx:∀{xs ys:List PV},Qc xs ys=true→xs=ys
 |[],[],_=>rfl
 |[],_::_,h=>by simp[Qc] at h
 |_::_,[],h=>by simp[Qc] at h
 |x::xs,y::ys,h=>by
  simp only[Qc,Ai] at h;rw[Vy h.1,Vx h.2]
theorem Zp{x y:PV}(h:Vz x y=true):x=y:=by
 unfold Vz at h
 split at h
 ·rw[Vx h]
 ·exact Vy h
theorem NM(m:Nat):∀l:List (IntKind×Int),(((l.map fun x=>Value.int x.1 x.2)).zip (l.map fun x=>Value.int x.1 x.2)).all (fun(x,y)=>Instr.sameBits m x y)=true
 |[]=>rfl
 |x::l=>by
  simp only[Bv,List.zip_cons_cons,Dr,NM m l,Bool.and_true];cases m<;>simp[Instr.sameBits]
theorem Ms(x:Kx):(Instr.keyThatStays x.val x.val).run P w=.ok x.val w:=by
 have:Instr.sameBits 10000 x.val x.val=true:=by
  cases x with
  |i k n=>simp[Kx.val,Instr.sameBits]
  |s l=>simp[Kx.val,Instr.sameBits,beq_toListBytes]
  |a l=>
   show Instr.sameBits (9999+1) (.agg _) (.agg _)=true;rw[Instr.sameBits];simp only[beq_self_eq_true,Cy];exact NM 9999 l
 simp[Instr.keyThatStays,this]
end
end Go.Abs

namespace Go.Abs
open Go.RowKit
section
variable{P:Program}{pur:FuncId→Bool}{call:Caller}{fi:FI}{cx:Cx}{G:Gh}{a:Act}{w:World}{A A':Frm}{σ σ':Sto}
set_option linter.unusedVariables false
set_option linter.unusedSimpArgs false
theorem iZ(hi:Inv cx G a w A σ)(hkd:∀t,cx.kd t=fi.kind t)(hnt:cx.nt=fi.nt){o:Oper}{ne:Bool}{op:BinOp}(hop:op=if ne then .neq else .eql){t yt:TypeId}{x y:Operand}(ho:o.op=.binOp op t x y yt){ts:List Nat}(ht:MU P t=some ts)
  {az:List CQ} (hc:Ap fi [x,y]=some az) (hd:BC fi o.dst=true) (hrun:BU pur call { dst:=o.dst,k:=.p (.aeq ne ts),args:=az } A σ=some (A',σ')):Gives P cx o a w A' σ':=by
 refine GX hi hkd hnt hd hrun fun vs rs he hs=>?_
 match vs,hs with
 |[.agg xs,.agg ys],hs=>
  simp only[Be] at hs;obtain⟨b,hb,rfl⟩:=Ac.1 hs;obtain⟨x',x2,y1,y2,e,rfl,hy1,hy2,hp,hq⟩:=Wv hc he;cases e;obtain⟨c1,e1,l1,r1⟩:=(Bp hi hkd hy1 hp rfl).RO;obtain⟨c2,e2,l2,r2⟩:=(Bp hi hkd hy2 hq rfl).RO;obtain⟨h1,h2⟩:=QR (w:=w) ht l1 l2 r1 r2 hb;refine⟨_,.bool (b != ne),rfl,rfl,?_,.one (.inl (.bool _)),fun _=>trivial⟩
  subst hop;cases ne with
  |true=>simp[execOp,ho,e1,e2,run_eqGuard_agg w _ t x y c1 c2 h2,run_neq_struct,h1]
  |false=>simp[execOp,ho,e1,e2,run_eqGuard_agg w _ t x y c1 c2 h2,run_eql_struct,h1]
theorem IQ{t e:TypeId}{n:Nat}(ht:P.underlying t=some (.array n e)){size:Nat}{ag:Bool}(hsz:Cv P e=some (size,ag)){k:IntKind}{z:Int}(hz:0≤z∧z<n)(b off:Nat):
  (Instr.indexAt t (.pointer (some ⟨b,off,none⟩)) (.int k z)).run P w=.ok (.pointer (some ⟨b,off+z.toNat * size,none⟩)) w:=by
 have hs':=run_sizeOf (P:=P) (w:=w) hsz;simp[Instr.indexAt,asIntOf,underlying,ht,hz,hs',Instr.sureAddr,Fh]
theorem vJ(hi:Inv cx G a w A σ)(hkd:∀t,cx.kd t=fi.kind t)(hnt:cx.nt=fi.nt){o:Oper}{t e:TypeId}{x i:Operand}(ho:o.op=.indexAddr t x i){n:Nat}(ht:P.underlying t=some (.array n e)){size:Nat}{ag:Bool}(hsz:Cv P e=some (size,ag))
  (hnl:∀p,∀d off,p=PV.lref d off→∀y,F4 fi x=some y→BS A [y]≠some [p])
  {az:List CQ} (hc:Ap fi [x,i]=some az) (hd:BC fi o.dst=true) (hrun:BU pur call { dst:=o.dst,k:=.p (.ixa n size ag),args:=az } A σ=some (A',σ')):Gives P cx o a w A' σ':=by
 refine GX hi hkd hnt hd hrun fun vs rs he hs=>?_
 obtain⟨p,q,r,rfl,hv,rfl⟩:=Qd (V:=ixV n size ag) (k:=.ixa n size ag) (fun _ _=>rfl) rfl (fun _=>rfl) (fun _ _ _ _=>rfl) vs rs hs
 obtain⟨x',x2,y1,y2,e',rfl,hy1,hy2,hp,hq⟩:=Wv hc he;cases e';cases q with
 |int k z=>
  have ei:=(Bp hi hkd hy2 hq rfl).CF;simp only[ixV] at hv
  split at hv
  case isFalse=>cases hv
  rename_i hz;cases p with
  |vptr v=>
   obtain⟨b,off,cv,ev,h1,h2,h3⟩:=(Bp hi hkd hy1 hp rfl).JV;simp only[faV] at hv;obtain⟨u,hu,rfl⟩:=Ac.1 hv;have hsc:=Na hu;refine⟨_,.pointer (some ⟨b,off+z.toNat * size,none⟩),rfl,rfl,by simp[execOp,ho,ev,ei,IQ ht hsz hz],?_,fun _=>trivial⟩
   refine .one (.inl (.vptr (fun j=>cv (z.toNat * size+j)) (fun j q hq=>?_) (fun j q hq=>?_) (fun j q hq=>?_)))
   ·have:=h1 _ _ (hsc j q hq);rw[←Dq] at this;exact this
   ·have:=h2 _ _ (hsc j q hq);rw[←Dq] at this;exact this
   ·exact h3 _ _ (hsc j q hq)
  |ref id off=>
   obtain⟨b,h1,ev⟩:=(Bp hi hkd hy1 hp rfl).Jm;simp only[faV] at hv;cases hv;exact⟨_,.pointer (some ⟨b,off+z.toNat * size,none⟩),rfl,rfl,by simp[execOp,ho,ev,ei,IQ ht hsz hz],.one (.inr (.ref h1)),fun _=>trivial⟩
  |aptr id gen sz i' off=>
   obtain⟨b,base,n',h1,ev⟩:=(Bp hi hkd hy1 hp rfl).Km;simp only[faV] at hv;cases hv;exact⟨_,.pointer (some ⟨b,base+i' * sz+(off+z.toNat * size),none⟩),rfl,rfl,by simp[execOp,ho,ev,ei,IQ ht hsz hz,Dq],.one (.inr (.aptr h1)),fun _=>trivial⟩
  |lref d off=>exact absurd hp (hnl _ d off rfl y1 hy1)
  |_=>simp[faV] at hv
 |_=>simp[ixV] at hv
theorem vI(hi:Inv cx G a w A σ)(hkd:∀t,cx.kd t=fi.kind t)(hnt:cx.nt=fi.nt)(hal:∀t,cx.al t=fi.alias t){o:Oper}{t e:TypeId}{d u:Nat}{i:Operand}(ho:o.op=.indexAddr t (.tmp d) i)(hou:o.dst=some u)
  {n:Nat} (ht:P.underlying t=some (.array n e)) {size:Nat} {ag:Bool} (hsz:Cv P e=some (size,ag)) (hk:cx.kd d=.box) (hau:fi.alias u=some d) (hd:Dj fi u=true)
  {az:List CQ} (hc:Ap fi [i]=some az) (hrun:BU pur call { dst:=some u,k:=.p (.ixl d n size),args:=.slot d::az } A σ=some (A',σ')):Gives P cx o a w A' σ':=by
 obtain⟨vs,rs,he,hs,rfl,hA⟩:=kI hrun;obtain⟨y,zs,rfl,hy,hz⟩:=AV hc;cases hz;obtain⟨c,qs,rfl,hp,hq⟩:=Ar he;obtain⟨q,qs,rfl,hp2,hq⟩:=Ar hq;cases hq;cases q with
 |int k z=>
  simp only[Be] at hs
  split at hs
  case isFalse=>cases hs
  rename_i hz;have ei:=(Bp hi hkd hy hp2 rfl).CF;obtain⟨hg,_⟩:=DT he;obtain⟨b,hb,hcell⟩:=(DR hk).1 (hi.slot d c hg);rw[hA _ (Option.some.inj hs).symm];have hev:a.eval (.tmp d)=.pointer (some ⟨b,0,none⟩):=hb;refine .inl ⟨.pointer (some ⟨b,z.toNat * size,none⟩),w,?_,G,?_⟩
  ·have:=IQ (P:=P) (w:=w) ht hsz (k:=k) hz b 0;rw[Bq] at this;simp[execOp,ho,hev,ei,this]
  ·rw[hou];exact hi.Yy (Fx hkd hnt hd) hk (by rw[hal];exact hau) hb
 |_=>simp[Be] at hs
theorem ou(hi:Inv cx G a w A σ)(hkd:∀t,cx.kd t=fi.kind t)(hnt:cx.nt=fi.nt)(hal:∀t,cx.al t=fi.alias t){o:Oper}{t e:TypeId}{s d u:Nat}{i:Operand}(ho:o.op=.indexAddr t (.tmp s) i)(hou:o.dst=some u)
  {n:Nat} (ht:P.underlying t=some (.array n e)) {size:Nat} {ag:Bool} (hsz:Cv P e=some (size,ag))
  (has:fi.alias s=some d) (hau:fi.alias u=some d) (hd:Dj fi u=true) {off:Nat} {d':Nat} (hgs:A.get s=some (.lref d' off))
  {az:List CQ} (hc:Ap fi [i]=some az) (hrun:BU pur call { dst:=some u,k:=.p (.ixa n size ag),args:=.slot s::az } A σ=some (A',σ')):Gives P cx o a w A' σ':=by
 obtain⟨vs,rs,he,hs,rfl,hA⟩:=kI hrun;obtain⟨y,zs,rfl,hy,hz⟩:=AV hc;cases hz;obtain⟨c,qs,rfl,hp,hq⟩:=Ar he;obtain⟨q,qs,rfl,hp2,hq⟩:=Ar hq;cases hq;obtain⟨hg,_⟩:=DT he;rw[hgs] at hg;cases hg;cases q with
 |int k z=>
  simp only[Be,ixV] at hs
  split at hs
  case isFalse=>cases hs
  rename_i hz;simp only[faV] at hs;have ei:=(Bp hi hkd hy hp2 rfl).CF;rw[hA _ (Option.some.inj hs).symm]
  have hdd:d'=d:=by
   have:=(Nl hi hgs).2.1;rw[hal,has] at this;exact(Option.some.inj this).symm
  subst hdd;obtain⟨hk,b,hb,hss⟩:=Lc hi hgs;have hev:a.eval (.tmp s)=.pointer (some ⟨b,off,none⟩):=hss;refine .inl ⟨.pointer (some ⟨b,off+z.toNat * size,none⟩),w,?_,G,?_⟩
  ·simp[execOp,ho,hev,ei,IQ (P:=P) (w:=w) ht hsz (k:=k) hz b off]
  ·rw[hou];exact hi.Yy (Fx hkd hnt hd) hk (by rw[hal];exact hau) hb
 |_=>simp[Be,ixV] at hs
theorem Po(hi:Inv cx G a w A σ){id:Nat}{d:KD}{z:PV}{ks:List Kx}{vs:List PV}(h:mapOf σ[id]?=some (d,z,ks,vs)):id<σ.length∧∃b,G.bl.l[id]?=some b∧Oc G w b id d ks vs:=by
 unfold mapOf at h
 split at h
 ·rename_i d' z' ks' vs' hσ;cases h;obtain⟨b,h1,h2⟩:=hi.obj id _ hσ;refine⟨(Ad.1 hσ).1,b,h1,?_⟩
  rcases h2 with h2 | ⟨t,e,l,h,_⟩ | h | ⟨_,_,_,h,_⟩ | ⟨d',z',ks',vs',h,h2⟩
  ·obtain⟨_,_,cs,_,_,_,h⟩:=h2;rcases h 0 _ rfl with⟨h,_⟩ | ⟨h,_⟩
   ·exact absurd h.free (by simp[PV.free])
   ·cases h
  ·cases h
  ·cases h
  ·cases h
  ·cases h;exact h2
 ·cases h
theorem Oc.keys{ks:List Kx}{vs:List PV}{es:Array MapEntry}(hn:es.size=ks.length)(h:∀(j:Nat) (e:MapEntry),es[j]?=some e→e.born=j∧(ks[j]?).map Kx.val=some e.key∧∀p,vs[j]?=some p→Bz G.I G.bl w e.val p):es.toList.map (·.key)=ks.map Kx.val:=by
 refine Ez fun i=>?_
 rw[Am,Am,Ay];rcases Bc i es.size with hi | hi
 ·rw[(h i _ (AJ hi)).2.1,AJ hi];rfl
 ·rw[Di hi,BD (by omega)];rfl
def oL(w:World)(r:Nat)(o:Obj):World:={ w with heap:=w.heap.setIfInBounds r o }
theorem ZC(w:World)(r:Nat)(o:Obj):Ih r w (oL w r o):=
 ⟨fun k hk=>by show(w.heap.setIfInBounds r o)[k]?=_;rw[De (fun e=>hk e.symm)],by simp[oL],rfl,rfl,rfl⟩
theorem wu{r:Nat}{o o':Obj}(h:w.heap[r]?=some o'):(oL w r o).heap[r]?=some o:=by
 have hrl:r<w.heap.size:=(Br.1 h).1;show(w.heap.setIfInBounds r o)[r]?=_;simp[hrl]
theorem ML(hi:Inv cx G a w A σ){id b:Nat}{d:KD}{ks:List Kx}{vs:List PV}(z:PV)(hb:G.bl.l[id]?=some b)(hm:Oc G w b id d ks vs)(hid:id<σ.length){es':Array MapEntry}{ks':List Kx}{vs':List PV}(hkd':ks'.all (JA d)=true)(hl:vs'.length=ks'.length)(hn:es'.size=ks'.length)
  (h:∀(j:Nat) (e:MapEntry),es'[j]?=some e→e.born=j∧(ks'[j]?).map Kx.val=some e.key∧∀p,vs'[j]?=some p→Bz G.I G.bl w e.val p):Inv cx G a (oL w b (.map es' es'.size)) A (σ.set id [.mapo d z ks' vs']):=by
 obtain⟨hω,hI,_,es,hes,_,_⟩:=hm;have hob:=ZC w b (.map es' es'.size);have hext:=QB (X:=fun tg=>tg=.obj id none) hob hω hI rfl
 have hbase:=Uu hi.base hob hω hI
 exact hi.Pj (X:=fun tg=>tg=.obj id none) (T:=fun _=>False) none undef (fun _ h=>by cases h) hid
  ⟨b,hb,.inr (.inr (.inr (.inr ⟨d,z,ks',vs',rfl,hω,hI,⟨hl,hkd'⟩,es',wu hes,hn,fun j e he=>⟨(h j e he).1,(h j e he).2.1,fun p hp=>((h j e he).2.2 p hp).mono hext.I hext.same hext.bl⟩⟩)))⟩
  hext hbase rfl (fun tg h=>.inl ⟨none,h⟩) (fun _ h=>h.elim) rfl (fun t p hp=>.inl ⟨fun h=>h,by simp,hp⟩)
theorem Zq{e:TypeId}{z:PV}(hz:FH P e=some z)(I:Imm):∃zv,(∀u:World,(zeroValue e).run P u=.ok zv u)∧(∀u:World,Rep I u zv z)∧z.free=true:=by
 unfold FH at hz
 split at hz
 ·rename_i it hit;obtain⟨zv,hzv,hzp⟩:=AL.1 hz;exact⟨zv,fun u=>by simp[zeroValue,typeInfo,hit,hzv],fun u=>F8 hzp,OG hzp⟩
 ·cases hz
theorem Rz{ao:AOp}{d:Option Nat}{p:PV}(hd:ao.dst=d)(hex:ao.ex=[])(hcl:ao.clr=[])(h1:([some p]:List (Option PV)).length=ao.dst.toList.length+ao.ex.length→A'=Dm A ao.wr ([some p]++ao.clr.map fun _=>none))
  (h2:([some p]:List (Option PV)).length≠ao.dst.toList.length+ao.ex.length→A'=A∧ao.dst=none):A'=Jc A d p:=by
 subst hd;cases hdd:ao.dst with
 |none=>exact(h2 (by rw[hdd,hex];simp)).1
 |some t=>
  rw[h1 (by rw[hdd,hex];simp)]
  simp[AOp.wr,hdd,hex,hcl,Dm,Jc]
theorem vB(hi:Inv cx G a w A σ)(hkd:∀t,cx.kd t=fi.kind t)(hnt:cx.nt=fi.nt){o:Oper}{t:TypeId}(ho:o.op=.makeMap t none){d:Nat}(hod:o.dst=some d)(hd:Dj fi d=true){z:PV}{kd:KD}
  (hrun:BU pur call { dst:=some d,k:=.w (.mkM z kd),args:=[] } A σ=some (A',σ')):Gives P cx o a w A' σ':=by
 obtain⟨vs,rs,he,hs,hA,_⟩:=J7 hrun;cases he;simp only[sem,EW] at hs;cases hs;rw[hA rfl];obtain⟨hdl,hk⟩:=Fx hkd hnt hd;refine .inl ⟨.map (some w.heap.size),w.alloc (.map #[] 0),by simp[execOp,ho,Instr.makeMap],?_⟩
 rw[hod]
 let G1:=G.LH w.heap.size (fun _=>False) (some (.obj σ.length none))
 let G':Gh:={ G1 with bl:=⟨G.bl.l++[w.heap.size],G.bl.ab⟩ }
 have hext1:=FN (fun _=>False) hi.base (.map #[] 0) (fun _=>False) (some (.obj σ.length none))
 have hext:Ext (fun _=>False) G G' w (w.alloc (.map #[] 0)):=⟨hext1.I,hext1.same,⟨DW _ _,fun _ _ _ h=>h⟩,fun _ _ _ _=>rfl,hext1.fix⟩
 have hb1:=E9 hi.base (.map #[] 0) (fun _=>False) (some (.obj σ.length none))
 have hbase:Base cx G' (w.alloc (.map #[] 0)):={ hb1 with bl:=hi.base.bl.trans ⟨DW _ _,fun _ _ _ h=>h⟩ }
 have hbl:G'.bl.l[σ.length]?=some w.heap.size:=by
  show(G.bl.l++[w.heap.size])[σ.length]?=_;rw[←hi.len];simp
 refine⟨G',hi.step _ (some d) _ hext hbase (by simp[Dm,AOp.wr]) ?_ ?_ ?_ (fun id g x h=>by have:=hi.abl id g x h;simp;omega)⟩
 ·intro s q hq;simp only[AOp.wr,Option.toList,Du,Az,BI,Bj,Dm] at hq;rw[Dk] at hq
  split at hq
  ·rename_i hc;cases hq;refine .inr ?_
   rw[hc.1,BZ hk rfl,FO _ _ _ (by rw[hi.size];exact hdl)]
   exact⟨.one (.inr (.mref hbl)),trivial⟩
  ·rename_i hc;have hsd:s≠d:=fun e=>hc ⟨e,by have:=hi.room;omega⟩
   refine .inl ⟨hq,fun e=>hsd (Option.some.inj e).symm,fun j h=>h,fun d' off e hbx hdd=>?_,fun m hm=>⟨fun e=>?_,fun h=>h⟩⟩
   ·cases hdd;rw[hbx] at hk;simp[SK.val] at hk
   ·cases e;obtain⟨keys,hkm⟩:=cx.ents s d hm;rw[hkm] at hk;simp[SK.val] at hk
 ·intro id cs' hc;by_cases hid:id<σ.length
  ·rw[Ak hid] at hc;exact .inl ⟨hc,fun _ h=>h⟩
  ·have:id=σ.length:=by
    have:=(Ad.1 hc).1;simp at this;omega
   subst this;simp at hc;subst hc;refine .inr ⟨w.heap.size,hbl,.inr (.inr (.inr (.inr ⟨kd,z.Ae,[],[],rfl,if_pos rfl,?_,⟨rfl,rfl⟩,#[],heap_alloc_new' _ _,rfl,fun j e h=>by simp at h⟩)))⟩
   rintro x (h | ⟨_,h⟩)
   ·have:=hi.base.lt _ _ h;omega
   ·exact h
 ·show(G.bl.l++[w.heap.size]).length=_;simp[hi.len]
theorem vE(hi:Inv cx G a w A σ)(hkd:∀t,cx.kd t=fi.kind t)(hnt:cx.nt=fi.nt){o:Oper}{c:Call}(ho:o.op=.call c)(hb:c.callee=.builtin .len){kt et:TypeId}(ht:c.argTypes.toList.map P.underlying=[some (.map kt et)])
  {az:List CQ} (hc:Ap fi c.args.toList=some az) (hd:BC fi o.dst=true) (hrun:BU pur call { dst:=o.dst,k:=.r .lnM,args:=az } A σ=some (A',σ')):Gives P cx o a w A' σ':=by
 obtain⟨vs,rs,he,hs,hA1,hA2⟩:=J7 hrun;simp only[sem] at hs;obtain⟨rs',hs2,e⟩:=Ac.1 hs;cases e
 obtain⟨t,htys,htu⟩:∃t,c.argTypes=#[t]∧P.underlying t=some (.map kt et):=by
  cases h:c.argTypes.toList with
  |nil=>rw[h] at ht;simp at ht
  |cons t r=>cases r with
   |nil=>rw[h] at ht;exact⟨t,Cj.1 h,by simpa using ht⟩
   |cons _ _=>rw[h] at ht;simp at ht
 match vs,hs2 with
 |[.mref id],hs2=>
  simp only[Fq] at hs2
  split at hs2
  ·rename_i d' z' ks ws hm;cases hs2;obtain⟨x,y,hxs,rfl,hy,hp⟩:=dO hc he;obtain⟨hid,b,hb1,hmo⟩:=Po hi hm;obtain⟨b',hb2,ev⟩:=(Bp hi hkd hy hp rfl).Kh;rw[hb1] at hb2;cases hb2;obtain⟨_,_,_,es,hes,hsz,_⟩:=hmo;have hargs:c.args=#[x]:=Cj.1 hxs;rw[Rz (ao:={ dst:=o.dst,k:=.r .lnM,args:=_ }) rfl rfl rfl hA1 hA2];refine .inl ⟨.int .i64 ks.length,w,?_,G,hi.NH (Ext.refl _ _ _) hi.base rfl o.dst (Ee hkd hnt hd) rfl (.one (.inl (.int _ _))) (fun _ _=>trivial)⟩
   have hget:(getObj b).run P w=.ok (.map es es.size) w:=by simp[getObj,Sem.run,hes]
   obtain⟨consts,hr⟩:=FJ (P:=P) (w:=w) (a:=a) ho hb;rw[hargs,htys] at hr;rw[hr];simp[builtin,ev,Builtin.len_,underlying,htu,hget,hsz,goInt]
  ·cases hs2
 |[.nilm],hs2=>
  simp only[Fq] at hs2;cases hs2;obtain⟨x,y,hxs,rfl,hy,hp⟩:=dO hc he;have ev:=(Bp hi hkd hy hp rfl).Tg;have hargs:c.args=#[x]:=Cj.1 hxs;rw[Rz (ao:={ dst:=o.dst,k:=.r .lnM,args:=_ }) rfl rfl rfl hA1 hA2];refine .inl ⟨.int .i64 0,w,?_,G,hi.NH (Ext.refl _ _ _) hi.base rfl o.dst (Ee hkd hnt hd) rfl (.one (.inl (.int _ _))) (fun _ _=>trivial)⟩
  obtain⟨consts,hr⟩:=FJ (P:=P) (w:=w) (a:=a) ho hb;rw[hargs,htys] at hr;rw[hr];simp[builtin,ev,Builtin.len_,underlying,htu,goInt]
end
end Go.Abs

namespace Go.Abs
open Go.RowKit
set_option linter.unusedVariables false
set_option linter.unusedSimpArgs false
section
variable{P:Program}{pur:FuncId→Bool}{call:Caller}{fi:FI}{cx:Cx}{G:Gh}{a:Act}{w:World}{A A':Frm}{σ σ':Sto}
theorem Lx{b:Nat}{es:Array MapEntry}{c:Nat}(h:w.heap[b]?=some (.map es c)):(getObj b).run P w=.ok (.map es c) w:=by simp[getObj,Sem.run,h]
theorem jf{I:Imm}{bl:Bl}{c:Value}{v:PV}(hr:Bz I bl w c v)(hc:(v.flat||v.Gi)=true):JD I bl w c v.Ae:=by
 rw[CW] at hc;rcases hc with hc | hc
 ·exact .inl (hr.flat hc).Ae
 ·have e:v.Ae=v:=by cases v<;>first | rfl | cases hc
  rw[e];cases hr with
  |one h=>exact h
  |func=>cases hc
  |tuple=>cases hc
  |aggr=>cases hc
theorem gp(hi:Inv cx G a w A σ)(hkd:∀t,cx.kd t=fi.kind t)(hnt:cx.nt=fi.nt){o:Oper}{ok:Bool}{v:PV}{b:Bool}{rs:List (Option PV)}(h:lkR ok v b=some rs){c:Value}(hr:Bz G.I G.bl w c v)(hf:v.free=true)(hd:BC fi o.dst=true)
  (hrun:(execOp a.eval o).run P w=.ok (.value (if ok then .tuple #[c,.bool b] else c)) w) (hA:∀p,rs=[some p]→A'=Jc A o.dst p):Gives P cx o a w A' σ:=by
 unfold lkR at h;cases ok with
 |true=>
  rw[if_pos rfl] at h
  split at h
  case isFalse=>cases h
  rename_i hc;cases h;rw[hA _ rfl];refine .inl ⟨_,w,hrun,G,hi.NH (Ext.refl _ _ _) hi.base rfl o.dst (Ee hkd hnt hd) rfl (.tuple rfl fun i p hp=>?_) (fun _ _=>trivial)⟩
  match i with
  |0=>
   simp at hp;subst hp;exact jf hr hc
  |1=>simp at hp;subst hp;exact .inl (.bool b)
  |n+2=>simp at hp
 |false=>
  simp only[Bool.false_eq_true,if_false] at hrun;have h:(if v.free=true then some [some v.Ae] else none)=some rs:=h
  rw[if_pos hf] at h;cases h;rw[hA _ rfl];exact .inl ⟨_,w,hrun,G,hi.NH (Ext.refl _ _ _) hi.base rfl o.dst (Ee hkd hnt hd) (by rw[Da];exact hf) hr.Ae (fun _ _=>Cr _)⟩
theorem vF(hi:Inv cx G a w A σ)(hkd:∀t,cx.kd t=fi.kind t)(hnt:cx.nt=fi.nt){o:Oper}{t kt et:TypeId}{x y:Operand}{ok:Bool}(ho:o.op=.lookup t x y ok)(ht:P.underlying t=some (.map kt et))
  {d:KD} (hkt:NJ P kt=some d) {z:PV} (hz:FH P et=some z)
  {az:List CQ} (hc:Ap fi [x,y]=some az) (hd:BC fi o.dst=true) (hrun:BU pur call { dst:=o.dst,k:=.r (.lkM z ok d),args:=az } A σ=some (A',σ')):Gives P cx o a w A' σ':=by
 obtain⟨vs,rs,he,hs,hA1,hA2⟩:=J7 hrun;simp only[sem] at hs;obtain⟨rs',hs2,e⟩:=Ac.1 hs;cases e;clear hs;obtain⟨zv,hzrun,hzrep,hzfree⟩:=Zq hz G.I
 have hA:∀p,rs=[some p]→A'=Jc A o.dst p:=fun p e=>by
  subst e;exact Rz (ao:={ dst:=o.dst,k:=.r (.lkM z ok d),args:=az }) rfl rfl rfl hA1 hA2
 match vs,hs2 with
 |[.mref id,k],hs2=>
  simp only[Fq] at hs2
  split at hs2
  ·rename_i d' z' ks ws x1 hm hk
   split at hs2
   case isFalse=>cases hs2
   rename_i hcc;obtain⟨rfl,hzs⟩:=hcc;obtain rfl:=Zp hzs;obtain⟨x',x2,y1,y2,e',rfl,hy1,hy2,hp,hq⟩:=Wv hc he;cases e';obtain⟨hid,b,hb1,hmo⟩:=Po hi hm;obtain⟨b',hb2,ev⟩:=(Bp hi hkd hy1 hp rfl).Kh;rw[hb1] at hb2;cases hb2;obtain⟨ek,hkx⟩:=Pv hk (Bp hi hkd hy2 hq (RL hk));obtain⟨_,_,⟨hlen,hall⟩,es,hes,hsz,hent⟩:=hmo;have hkeys:=Oc.keys hsz hent;have hget:=Lx (P:=P) hes;have hck:=Kz (P:=P) (w:=w) es.isEmpty hkt hkx;have hfd:=LA (P:=P) (w:=w) hkt hkx hkeys hall;cases hj:GY x1 ks with
   |some j=>
    have hjk:=Li hj;have hjl:=(Ad.1 hjk).1;have hv:ws[j]?=some ws[j]:=Ah (by omega)
    have hje:es[j]?=some es[j]:=AJ (by omega)
    have hlk:KH x1 ks ws=some ws[j]:=by unfold KH;rw[hj];exact hv
    rw[hlk] at hs2;have hrep:=(hent j _ hje).2.2 _ hv;refine gp hi hkd hnt hs2 hrep hrep.free hd ?_ hA
    have hfd2:(Instr.findKey kt x1.val es.toList).run P w=.ok (some (j,es[j].val)) w:=by
     rw[hfd,hj];simp[hje]
    simp[execOp,ho,Instr.lookup,underlying,ht,ev,ek,hget,hck,hfd2]
   |none=>
    have hlk:KH x1 ks ws=none:=by unfold KH;rw[hj];rfl
    rw[hlk] at hs2;refine gp hi hkd hnt hs2 (.one (.inl (hzrep w))) hzfree hd ?_ hA
    have hfd2:(Instr.findKey kt x1.val es.toList).run P w=.ok none w:=by
     rw[hfd,hj];rfl
    simp[execOp,ho,Instr.lookup,underlying,ht,ev,ek,hget,hck,hfd2,hzrun]
  ·cases hs2
 |[.nilm,k],hs2=>
  simp only[Fq] at hs2
  split at hs2
  ·rename_i x1 hk;obtain⟨x',x2,y1,y2,e',rfl,hy1,hy2,hp,hq⟩:=Wv hc he;cases e';have ev:=(Bp hi hkd hy1 hp rfl).Tg;obtain⟨ek,hkx⟩:=Pv hk (Bp hi hkd hy2 hq (RL hk));have hck:=Kz (P:=P) (w:=w) true hkt hkx;have hfd:=LA (P:=P) (w:=w) hkt hkx (es:=[]) (ks:=[]) rfl rfl;refine gp hi hkd hnt hs2 (.one (.inl (hzrep w))) hzfree hd ?_ hA
   have hfd2:(Instr.findKey kt x1.val []).run P w=.ok none w:=by rw[hfd];rfl
   simp[execOp,ho,Instr.lookup,underlying,ht,ev,ek,hck,hfd2,hzrun]
  ·cases hs2
theorem Uc{ks:List Kx}{vs:List PV}{es:Array MapEntry}(hsz:es.size=ks.length)(hlen:vs.length=ks.length)(hent:∀(j:Nat) (e:MapEntry),es[j]?=some e→e.born=j∧(ks[j]?).map Kx.val=some e.key∧∀p,vs[j]?=some p→Bz G.I G.bl w e.val p)
  {j:Nat} (hj:j<ks.length) {f:MapEntry→MapEntry} {v:PV} (hb:∀e,es[j]?=some e→(f e).born=e.born∧(f e).key=e.key∧Bz G.I G.bl w (f e).val v) :
  (vs.set j v).length=ks.length∧(es.modify j f).size=ks.length∧∀(i:Nat) (e:MapEntry),(es.modify j f)[i]?=some e→e.born=i∧(ks[i]?).map Kx.val=some e.key∧∀p,(vs.set j v)[i]?=some p→Bz G.I G.bl w e.val p:=by
 refine⟨by simp[hlen],by simp[hsz],fun i e he=>?_⟩
 rw[Cz] at he
 split at he
 ·rename_i hji;subst hji;obtain⟨e0,h0,rfl⟩:=Ac.1 he;obtain⟨q1,q2,q3⟩:=hb e0 h0;obtain⟨r1,r2,_⟩:=hent _ e0 h0;refine⟨q1.trans r1,by rw[q2];exact r2,fun p hp=>?_⟩
  rw[List.getElem?_set_self (by omega)] at hp
  cases hp;exact q3
 ·rename_i hji;obtain⟨r1,r2,r3⟩:=hent i e he;refine⟨r1,r2,fun p hp=>?_⟩
  rw[EZ hji] at hp;exact r3 p hp
theorem Wm{ks:List Kx}{vs:List PV}{es:Array MapEntry}(hsz:es.size=ks.length)(hlen:vs.length=ks.length)(hent:∀(j:Nat) (e:MapEntry),es[j]?=some e→e.born=j∧(ks[j]?).map Kx.val=some e.key∧∀p,vs[j]?=some p→Bz G.I G.bl w e.val p)
  (x:Kx) {v:PV} {c:Value} (hr:Bz G.I G.bl w c v) :
  (vs++[v]).length=(ks++[x]).length∧(es.push { key:=x.val,val:=c,born:=es.size }).size=(ks++[x]).length∧
   ∀(i:Nat) (e:MapEntry),(es.push { key:=x.val,val:=c,born:=es.size })[i]?=some e→e.born=i∧((ks++[x])[i]?).map Kx.val=some e.key∧∀p,(vs++[v])[i]?=some p→Bz G.I G.bl w e.val p:=by
 refine⟨by simp[hlen],by simp[hsz],fun i e he=>?_⟩
 rw[ED] at he
 split at he
 ·rename_i hi;cases he;subst hi;refine⟨rfl,by rw[hsz,Ao (Ag _),Fb];rfl,fun p hp=>?_⟩
  rw[hsz,←hlen,Ao (Ag _),Fb] at hp;cases hp;exact hr
 ·rename_i hi;have hil:=(Br.1 he).1;obtain⟨r1,r2,r3⟩:=hent i e he;refine⟨r1,by rw[Ak (by omega)];exact r2,fun p hp=>?_⟩
  rw[Ak (by omega)] at hp
  exact r3 p hp
theorem J4{b:Nat}{es es':Array MapEntry}{c c':Nat}(h:w.heap[b]?=some (.map es c)):(setObj b (.map es' c')).run P w=.ok () (oL w b (.map es' c')):=MapKept.run_setObj_map _ h
theorem iP(hi:Inv cx G a w A σ)(hkd:∀t,cx.kd t=fi.kind t){o:Oper}{t kt et:TypeId}{m x y:Operand}(ho:o.op=.mapUpdate t m x y∨o.op=.insert t m x y)(hod:o.dst=none)(ht:P.underlying t=some (.map kt et))
  {d:KD} (hkt:NJ P kt=some d)
  {az:List CQ} (hc:Ap fi [m,x,y]=some az) (hrun:BU pur call { dst:=none,k:=.w (.upM d),args:=az } A σ=some (A',σ')):Gives P cx o a w A' σ':=by
 obtain⟨vs,rs,he,hs,hA1,hA2⟩:=J7 hrun;simp only[sem] at hs;obtain⟨y1,zs,rfl,hy1,hz'⟩:=AV hc;obtain⟨y2,zs,rfl,hy2,hz'⟩:=AV hz';obtain⟨y3,zs,rfl,hy3,hz'⟩:=AV hz';cases hz';obtain⟨p1,qs,rfl,hp1,hq⟩:=Ar he;obtain⟨p2,qs,rfl,hp2,hq⟩:=Ar hq;obtain⟨p3,qs,rfl,hp3,hq⟩:=Ar hq;cases hq;cases p1 with
 |mref id=>
  simp only[EW] at hs
  split at hs
  ·rename_i d' z' ks ws x1 hm hk
   split at hs
   case isFalse=>cases hs
   rename_i hcc;obtain⟨rfl,hvf⟩:=hcc;obtain⟨hid,b,hb1,hmo⟩:=Po hi hm;obtain⟨b',hb2,ev⟩:=(Bp hi hkd hy1 hp1 rfl).Kh;rw[hb1] at hb2;cases hb2;obtain⟨ek,hkx⟩:=Pv hk (Bp hi hkd hy2 hp2 (RL hk));have hrv:=(Bp hi hkd hy3 hp3 hvf).Ae;have hmo':=hmo;obtain⟨_,_,⟨hlen,hall⟩,es,hes,hsz,hent⟩:=hmo;have hkeys:=Oc.keys hsz hent;have hget:=Lx (P:=P) hes;have hck:=Kz (P:=P) (w:=w) false hkt hkx;have hfd:=LA (P:=P) (w:=w) hkt hkx hkeys hall
   split at hs
   ·rename_i j hj;cases hs;rw[hA1 rfl];have hjk:=Li hj;have hjl:=(Ad.1 hjk).1;have hje:es[j]?=some es[j]:=AJ (by omega)
    have hke:es[j].key=x1.val:=by
     have:=(hent j _ hje).2.1;rw[hjk] at this;exact(Option.some.inj this).symm
    have hall':=hall;obtain⟨g1,g2,g3⟩:=Uc hsz hlen hent hjl (f:=fun e=>{ e with key:=x1.val,val:=a.eval y }) (v:=p3.Ae) (fun e he=>⟨rfl,by rw[hje] at he;cases he;exact hke.symm,hrv⟩)
    have hst:=ML hi z' hb1 hmo' hid hall' g1 g2 g3;refine .inr ⟨_,?_,⟨G,by rw[hod];exact hst⟩⟩
    have hkey:(Instr.keyThatStays (((es[j]?).map (·.key)).getD x1.val) x1.val).run P w=.ok x1.val w:=by
     rw[hje];simp only[AO,Ei,hke];exact Ms x1
    have hfd2:(Instr.findKey kt x1.val es.toList).run P w=.ok (some (j,es[j].val)) w:=by
     rw[hfd,hj];simp[hje]
    have hsm:=J4 (P:=P) (es':=es.modify j fun e=>{ e with key:=x1.val,val:=a.eval y }) (c':=es.size) hes
    have e9:(es.modify j fun e=>{ e with key:=x1.val,val:=a.eval y }).size=es.size:=by simp
    rcases ho with ho | ho
    ·simp only[execOp,ho,ev,ek,Instr.mapUpdate,Sem.run_bind,run_underlying ht,Result.andThen_ok,hget,hck,hfd2,hkey,hsm,e9];rfl
    ·simp only[execOp,ho,ev,ek,Instr.mapUpdate,Sem.run_bind,run_underlying ht,Result.andThen_ok,hget,hck,hfd2,hkey,hsm,e9];rfl
   ·rename_i hj
    split at hs
    case isFalse=>cases hs
    cases hs;rw[hA1 rfl];have hall':(ks++[x1]).all (JA d')=true:=by simp[FM,hall,hkx]
    obtain⟨g1,g2,g3⟩:=Wm hsz hlen hent x1 hrv;have hst:=ML hi z' hb1 hmo' hid hall' g1 g2 g3;refine .inr ⟨_,?_,⟨G,by rw[hod];exact hst⟩⟩
    have hfd2:(Instr.findKey kt x1.val es.toList).run P w=.ok none w:=by rw[hfd,hj];rfl
    have hsm:=J4 (P:=P) (es':=es.push { key:=x1.val,val:=a.eval y,born:=es.size }) (c':=es.size+1) hes;have e9:(es.push { key:=x1.val,val:=a.eval y,born:=es.size }).size=es.size+1:=by simp
    rcases ho with ho | ho
    ·simp only[execOp,ho,ev,ek,Instr.mapUpdate,Sem.run_bind,run_underlying ht,Result.andThen_ok,hget,hck,hfd2,hsm,e9];rfl
    ·simp only[execOp,ho,ev,ek,Instr.mapUpdate,Sem.run_bind,run_underlying ht,Result.andThen_ok,hget,hck,hfd2,hsm,e9];rfl
  ·cases hs
 |_=>simp[EW] at hs
theorem vQ(hi:Inv cx G a w A σ)(hkd:∀t,cx.kd t=fi.kind t)(hnt:cx.nt=fi.nt){o:Oper}{t kt et:TypeId}{m x:Operand}(ho:o.op=.mapEntry t m x)(ht:P.underlying t=some (.map kt et))
  {d:KD} (hkt:NJ P kt=some d) {z:PV} (hz:FH P et=some z)
  {az:List CQ} (hc:Ap fi [m,x]=some az) (hd:BC fi o.dst=true) (hrun:BU pur call { dst:=o.dst,k:=.w (.enM z d),args:=az } A σ=some (A',σ')):Gives P cx o a w A' σ':=by
 obtain⟨vs,rs,he,hs,hA1,hA2⟩:=J7 hrun;simp only[sem] at hs;obtain⟨zv,hzrun,hzrep,hzfree⟩:=Zq hz G.I
 have hA:∀p,rs=[some p]→A'=Jc A o.dst p:=fun p e=>by
  subst e;exact Rz (ao:={ dst:=o.dst,k:=.w (.enM z d),args:=az }) rfl rfl rfl hA1 hA2
 match vs,hs with
 |[.mref id,k],hs=>
  simp only[EW] at hs
  split at hs
  ·rename_i d' z' ks ws x1 hm hk
   split at hs
   case isFalse=>cases hs
   rename_i hcc;obtain⟨rfl,hzs,hzf⟩:=hcc;obtain rfl:=Zp hzs;obtain⟨x',x2,y1,y2,e',rfl,hy1,hy2,hp1,hp2⟩:=Wv hc he;cases e';obtain⟨hid,b,hb1,hmo⟩:=Po hi hm;obtain⟨b',hb2,ev⟩:=(Bp hi hkd hy1 hp1 rfl).Kh;rw[hb1] at hb2;cases hb2;obtain⟨ek,hkx⟩:=Pv hk (Bp hi hkd hy2 hp2 (RL hk));have hmo':=hmo;obtain⟨_,_,⟨hlen,hall⟩,es,hes,hsz,hent⟩:=hmo;have hkeys:=Oc.keys hsz hent;have hget:=Lx (P:=P) hes;have hck:=Kz (P:=P) (w:=w) false hkt hkx;have hfd:=LA (P:=P) (w:=w) hkt hkx hkeys hall
   split at hs
   ·rename_i j hj
    split at hs
    ·rename_i v hv
     split at hs
     case isFalse=>cases hs
     rename_i hvc;cases hs;rw[hA _ rfl];have hjk:=Li hj;have hjl:=(Ad.1 hjk).1;have hje:es[j]?=some es[j]:=AJ (by omega)
     obtain⟨hbn,hke',hrv'⟩:=hent j _ hje
     have hke:es[j].key=x1.val:=by
      rw[hjk] at hke';exact(Option.some.inj hke').symm
     have hrv:=hrv' v hv;have hall':=hall;obtain⟨g1,g2,g3⟩:=Uc hsz hlen hent hjl (f:=fun e=>{ e with key:=x1.val }) (v:=v) (fun e he=>⟨rfl,by rw[hje] at he;cases he;exact hke.symm,by rw[hje] at he;cases he;exact hrv⟩)
     have hst:=ML hi z hb1 hmo' hid hall' g1 g2 g3
     have e8:ws.set j v=ws:=by
      refine Ez fun i=>?_
      by_cases hij:j=i
      ·subst hij;rw[List.getElem?_set_self (Ad.1 hv).1,hv]
      ·rw[EZ hij]
     have e7:σ.set id [.mapo d' z ks ws]=σ:=by
      have hσ:σ[id]?=some [.mapo d' z ks ws]:=by
       unfold mapOf at hm
       split at hm
       ·cases hm;assumption
       ·cases hm
      refine Ez fun i=>?_
      by_cases hij:id=i
      ·subst hij;rw[List.getElem?_set_self hid,hσ]
      ·rw[EZ hij]
     rw[e8,e7] at hst;have hob:=ZC w b (.map (es.modify j fun e=>{ e with key:=x1.val }) (es.modify j fun e=>{ e with key:=x1.val }).size)
     have hext:=QB (X:=fun tg=>tg=.obj id none) hob hmo'.1 hmo'.2.1 rfl
     refine .inl ⟨.tuple #[es[j].val,goInt (j:Nat)],_,?_,G,hst.NH (Ext.refl _ _ _) hst.base rfl o.dst (Ee hkd hnt hd) rfl (.tuple rfl fun i p hp=>?_) (fun _ _=>trivial)⟩
     ·have hkey:(Instr.keyThatStays (((es[j]?).map (·.key)).getD x1.val) x1.val).run P w=.ok x1.val w:=by
       rw[hje];simp only[AO,Ei,hke];exact Ms x1
      have hfd2:(Instr.findKey kt x1.val es.toList).run P w=.ok (some (j,es[j].val)) w:=by
       rw[hfd,hj];simp[hje]
      have hsm:=J4 (P:=P) (es':=es.modify j fun e=>{ e with key:=x1.val }) (c':=es.size) hes
      have e9:(es.modify j fun e=>{ e with key:=x1.val }).size=es.size:=by simp
      simp only[execOp,ho,ev,ek,Instr.mapEntry,Sem.run_bind,run_underlying ht,Result.andThen_ok,hget,hck,hfd2,hje,AO,Ei,hke,Ms,hsm,e9,Sem.run_pure,hbn]
     ·match i with
      |0=>
       simp at hp;subst hp;exact(jf hrv hvc).mono hext.I hext.same hext.bl
      |1=>simp at hp;subst hp;exact .inl (.int _ _)
      |n+2=>simp at hp
    ·cases hs
   ·rename_i hj
    split at hs
    case isFalse=>cases hs
    cases hs;rw[hA _ rfl];have hall':(ks++[x1]).all (JA d')=true:=by simp[FM,hall,hkx]
    obtain⟨g1,g2,g3⟩:=Wm hsz hlen hent x1 (Bz.one (bl:=G.bl) (.inl (hzrep w)));have hst:=ML hi z hb1 hmo' hid hall' g1 g2 g3;have hfd2:(Instr.findKey kt x1.val es.toList).run P w=.ok none w:=by rw[hfd,hj];rfl
    have hsm:=J4 (P:=P) (es':=es.push { key:=x1.val,val:=zv,born:=es.size }) (c':=es.size+1) hes;have e9:(es.push { key:=x1.val,val:=zv,born:=es.size }).size=es.size+1:=by simp
    refine .inl ⟨.tuple #[zv,goInt (es.size:Nat)],_,?_,G,hst.NH (Ext.refl _ _ _) hst.base rfl o.dst (Ee hkd hnt hd) rfl (.tuple rfl fun i p hp=>?_) (fun _ _=>trivial)⟩
    ·simp only[execOp,ho,ev,ek,Instr.mapEntry,Sem.run_bind,run_underlying ht,Result.andThen_ok,hget,hck,hfd2,hzrun,hsm,e9,Sem.run_pure]
    ·match i with
     |0=>simp at hp;subst hp;exact .inl (hzrep _).Ae
     |1=>simp at hp;subst hp;rw[hsz];exact .inl (.int _ _)
     |n+2=>simp at hp
  ·cases hs
theorem vP(hi:Inv cx G a w A σ)(hkd:∀t,cx.kd t=fi.kind t){o:Oper}{t:TypeId}{m x y:Operand}(ho:o.op=.entryStore t m x y)(hod:o.dst=none)
  {az:List CQ} (hc:Ap fi [m,x,y]=some az) (hrun:BU pur call { dst:=none,k:=.w .esM,args:=az } A σ=some (A',σ')):Gives P cx o a w A' σ':=by
 obtain⟨vs,rs,he,hs,hA1,hA2⟩:=J7 hrun;simp only[sem] at hs;obtain⟨y1,zs,rfl,hy1,hz'⟩:=AV hc;obtain⟨y2,zs,rfl,hy2,hz'⟩:=AV hz';obtain⟨y3,zs,rfl,hy3,hz'⟩:=AV hz';cases hz';obtain⟨p1,qs,rfl,hp1,hq⟩:=Ar he;obtain⟨p2,qs,rfl,hp2,hq⟩:=Ar hq;obtain⟨p3,qs,rfl,hp3,hq⟩:=Ar hq;cases hq;cases p1 with
 |mref id=>
  cases p2 with
  |int k i=>
   simp only[EW] at hs
   split at hs
   ·rename_i d' z' ks ws hm
    split at hs
    case isFalse=>cases hs
    rename_i hcc;obtain⟨h0,hlt,hvf⟩:=hcc;cases hs;rw[hA1 rfl];obtain⟨hid,b,hb1,hmo⟩:=Po hi hm;obtain⟨b',hb2,ev⟩:=(Bp hi hkd hy1 hp1 rfl).Kh;rw[hb1] at hb2;cases hb2;have ei:=(Bp hi hkd hy2 hp2 rfl).CF;have hrv:=(Bp hi hkd hy3 hp3 hvf).Ae;have hmo':=hmo;obtain⟨_,_,⟨hlen,hall⟩,es,hes,hsz,hent⟩:=hmo;have hall':=hall;have hget:=Lx (P:=P) hes;have hjl:i.toNat<ks.length:=by omega
    obtain⟨g1,g2,g3⟩:=Uc hsz hlen hent hjl (f:=fun e=>{ e with val:=a.eval y }) (v:=p3.Ae) (fun e he=>⟨rfl,rfl,hrv⟩)
    have hst:=ML hi z' hb1 hmo' hid hall' g1 g2 g3;refine .inr ⟨_,?_,⟨G,by rw[hod];exact hst⟩⟩
    have hsm:=J4 (P:=P) (es':=es.modify i.toNat fun e=>{ e with val:=a.eval y }) (c':=es.size) hes
    have e9:(es.modify i.toNat fun e=>{ e with val:=a.eval y }).size=es.size:=by simp
    have hfi:es.findIdx? (fun e=>(e.born:Int)==i)=some i.toNat:=by
     rw[Array.findIdx?_eq_some_iff_getElem]
     refine⟨by omega,?_,fun j hj=>?_⟩
     ·have:=(hent i.toNat _ (AJ (by omega))).1
      simp only[this,beq_iff_eq];omega
     ·have:=(hent j _ (AJ (by omega))).1
      simp only[this,beq_iff_eq];omega
    simp only[execOp,ho,ev,ei,Instr.entryStore,Sem.run_bind,Result.andThen_ok,hget,asInt,asIntOf,Sem.run_pure,hfi,hsm,e9]
   ·cases hs
  |_=>simp[EW] at hs
 |_=>simp[EW] at hs
end
end Go.Abs

namespace Go.Abs
open Go.RowKit
structure Ho(cx:Cx)(fi:FI):Prop where
 kd:∀t,cx.kd t=fi.kind t
 nt:cx.nt=fi.nt
 al:∀t,cx.al t=fi.alias t
section
variable{P:Program}{pur:FuncId→Bool}{call:Caller}{fi:FI}{cx:Cx}{G:Gh}{a:Act}{w:World}{A A':Frm}{σ σ':Sto}{rg:RG}{o:Oper}{ao:AOp}
theorem mk0{d:Option Nat}{k:AK}{args:Option (List CQ)}(h:mk fi d k args=some ao):∃az,args=some az∧ao={ dst:=d,k,args:=az }∧BC fi d=true:=by
 obtain⟨az,h1,h2,h3,_⟩:=RJ h;exact⟨az,h1,h2,h3⟩
theorem mk1{d s:Nat}{k:AK}{args:Option (List CQ)}(h:mk fi (some d) k args [s]=some ao):∃az,args=some az∧ao={ dst:=some d,k,args:=az,ex:=[s] }∧Dj fi d=true∧Dj fi s=true∧d≠s:=by
 obtain⟨az,h1,h2,h3,h4,h5⟩:=RJ h;refine⟨az,h1,h2,h3,by simpa using h4,?_⟩
 simp at h5;exact h5
theorem xE(hi:Inv cx G a w A σ)(hx:Ho cx fi){x:Operand}(hop:o.op=.move x)(hc:Cs P pur fi rg o=some ao)(hrun:BU pur call ao A σ=some (A',σ')):Gives P cx o a w A' σ':=by
 simp only[Cs,hop] at hc
 split at hc
 ·obtain⟨az,h1,rfl,h3⟩:=mk0 hc;exact vL hi hx.kd hx.nt hop h1 h3 hrun
 split at hc
 ·rename_i s t hd
  split at hc
  ·rename_i keys hk
   split at hc
   ·rename_i hcc;cases hc;rw[hd] at hrun;exact vo hi hx.kd hx.nt hop hd (by rw[hx.kd];exact hk) hcc.1 hrun
   ·cases hc
  ·split at hc
   ·rw[hd] at hc;obtain⟨az,h1,rfl,h3,h4,_⟩:=mk1 hc;exact iR hi hx.kd hx.nt (.inl hop) hd h1 h3 h4 hrun
   ·obtain⟨az,h1,rfl,h3⟩:=mk0 hc;exact WP hi hx.kd hx.nt (.inl hop) h1 h3 hrun
 ·obtain⟨az,h1,rfl,h3⟩:=mk0 hc;exact WP hi hx.kd hx.nt (.inl hop) h1 h3 hrun
theorem kZ(hi:Inv cx G a w A σ)(hx:Ho cx fi){x:Operand}(hop:o.op=.assign x)(hc:Cs P pur fi rg o=some ao)(hrun:BU pur call ao A σ=some (A',σ')):Gives P cx o a w A' σ':=by
 simp only[Cs,hop] at hc
 split at hc
 ·rename_i s
  split at hc
  ·cases hd:o.dst with
   |none=>
    rw[hd] at hc;obtain⟨az,h1,rfl,h3,h4,h5⟩:=RJ hc;obtain⟨vs,rs,he,hs,rfl,hA⟩:=NG rfl hrun;obtain⟨y,zs,rfl,hy,hz⟩:=AV h1;cases hz;obtain⟨p,qs,rfl,hp,hq⟩:=Ar he;cases hq;simp only[Be] at hs
    split at hs
    ·cases hs;unfold BU at hrun;dsimp only at he hrun;rw[he] at hrun;simp only[sem,Be] at hrun
     simp_all
    ·cases hs
   |some d=>
    rw[hd] at hc;obtain⟨az,h1,rfl,h3,h4,_⟩:=mk1 hc;exact iR hi hx.kd hx.nt (.inr hop) hd h1 h3 h4 hrun
  ·obtain⟨az,h1,rfl,h3⟩:=mk0 hc;exact WP hi hx.kd hx.nt (.inr hop) h1 h3 hrun
 ·obtain⟨az,h1,rfl,h3⟩:=mk0 hc;exact WP hi hx.kd hx.nt (.inr hop) h1 h3 hrun
theorem AwC(hi:Inv cx G a w A σ)(hx:Ho cx fi){t:TypeId}{x:Operand}(hop:o.op=.box t x)(hc:Cs P pur fi rg o=some ao)(hrun:BU pur call ao A σ=some (A',σ')):Gives P cx o a w A' σ':=by
 simp only[Cs,hop] at hc
 split at hc
 ·rename_i s nag hd hcell
  split at hc
  ·cases hc
  ·rename_i hlt;have hlt':s<cx.nt:=by rw[hx.nt];exact Nat.lt_of_not_le hlt
   rw[hd] at hc
   split at hc
   ·rename_i hk;obtain⟨az,h1,rfl⟩:=Ac.1 hc;exact vV hi hx.kd hx.al hop hd hlt' (by rw[hx.kd];exact hk) h1 hrun
   ·rename_i hk;obtain⟨az,h1,rfl⟩:=Ac.1 hc;refine AzL hi hx.kd hop (fun d hd'=>?_) h1 (by rw[hd];exact hrun)
    rw[hd] at hd';cases hd';exact⟨hlt',by rw[hx.kd,hk];rfl⟩
   ·rename_i hk;obtain⟨az,h1,rfl⟩:=Ac.1 hc;exact vW hi hx.kd hop hd hlt' (by rw[hx.kd,hk];rfl) h1 hrun
   ·cases hc
 ·cases hc
theorem qm(hi:Inv cx G a w A σ)(hx:Ho cx fi){t:TypeId}(hop:o.op=.alloc t)(hc:Cs P pur fi rg o=some ao)(hrun:BU pur call ao A σ=some (A',σ')):Gives P cx o a w A' σ':=by
 simp only[Cs,hop] at hc
 split at hc
 ·rename_i s n ag z hd hcell hz
  split at hc
  ·cases hc
  ·rename_i hlt;have hlt':s<cx.nt:=by rw[hx.nt];exact Nat.lt_of_not_le hlt
   rw[hd] at hc
   split at hc
   ·rename_i hk;cases hc;exact AzI hi hx.al hop hd hlt' (by rw[hx.kd];exact hk) hz hrun
   ·rename_i hk
    split at hc
    ·rename_i hzn;cases hc;exact AzJ hi hop hd hlt' (by rw[hx.kd,hk];rfl) hz hzn hrun
    ·cases hc
   ·rename_i hk
    split at hc
    ·rename_i bt be hbt
     split at hc
     ·rename_i hbe
      split at hc
      ·cases hc;exact vZ hi hop hd hlt' (by rw[hx.kd,hk];rfl) hz hrun
      ·cases hc
     ·cases hc;exact iY hi hop hd hlt' (by rw[hx.kd,hk];rfl) hz hrun
    ·cases hc;exact iY hi hop hd hlt' (by rw[hx.kd,hk];rfl) hz hrun
   ·cases hc
 ·cases hc
theorem qj(hi:Inv cx G a w A σ)(hx:Ho cx fi){t:TypeId}{ps:Array (Nat×Operand)}(hop:o.op=.build t ps)(hc:Cs P pur fi rg o=some ao)(hrun:BU pur call ao A σ=some (A',σ')):Gives P cx o a w A' σ':=by
 simp only[Cs,hop] at hc
 split at hc
 ·rename_i fs z hs hz
  split at hc
  ·rename_i places hpl
   split at hc
   ·rename_i pl hpp;obtain⟨az,h1,rfl,h3⟩:=mk0 hc;exact kF hi hx.kd hx.nt hop hs hz hpl hpp h1 h3 hrun
   ·cases hc
  ·cases hc
 ·cases hc
theorem Vq(hi:Inv cx G a w A σ)(hx:Ho cx fi){t:TypeId}{n:Nat}{ps:Array (Nat×Operand)}(hop:o.op=.buildSlice t n ps)(hc:Cs P pur fi rg o=some ao)(hrun:BU pur call ao A σ=some (A',σ')):Gives P cx o a w A' σ':=by
 simp only[Cs,hop] at hc
 split at hc
 ·split at hc
  ·rename_i e hs
   split at hc
   ·rename_i ag hcell
    split at hc
    ·rename_i hcc;obtain⟨rfl,rfl⟩:=hcc;obtain⟨az,h1,rfl,h3⟩:=mk0 hc;cases h1;exact vY hi hx.kd hx.nt hop hs hcell h3 hrun
    ·cases hc
   ·cases hc
  ·cases hc
 split at hc
 ·rename_i e hs
  split at hc
  ·rename_i size ag hcell
   split at hc
   ·rename_i hcc;simp only[Ai,beq_iff_eq,decide_eq_true_eq] at hcc;obtain⟨⟨⟨⟨⟨c1,c2⟩,c3⟩,c4⟩,c5⟩,c6⟩:=hcc;obtain⟨az,h1,rfl,h3⟩:=mk0 hc;exact vX hi hx.kd hx.nt hop hs hcell c1 c2 c3 c4 c5 c6 h1 h3 hrun
   ·cases hc
  ·cases hc
 ·cases hc
theorem QD{s:Nat}(hlt:¬fi.nt≤s)(hk:(fi.kind s).val=true):Ap fi [.tmp s]=some [.slot s]:=by
 have hlt':s<fi.nt:=by omega
 simp only[Ap,F4];cases h:fi.kind s<;>rw[h] at hk<;>first | (simp[SK.val] at hk;done) | simp[hlt']
theorem xG(hi:Inv cx G a w A σ)(hx:Ho cx fi){t:TypeId}{x:Operand}(hop:o.op=.load t x)(hc:Cs P pur fi rg o=some ao)(hrun:BU pur call ao A σ=some (A',σ')):Gives P cx o a w A' σ':=by
 cases hd:o.dst with
 |none=>
  simp only[Cs,hop,hd,Bool.and_false,Bool.false_eq_true,if_false] at hc
  split at hc
  ·rename_i n ag hcell
   split at hc
   ·rename_i s
    split at hc
    ·cases hc
    ·rename_i hlt
     split at hc
     ·rename_i hk
      split at hc
      ·simp at hc
      obtain⟨az,h1,rfl,h3⟩:=mk0 hc;cases h1;exact WX hi hx.kd hx.nt hop (by rw[hx.kd];exact hk) hcell (by rw[hd];exact h3) (by rw[hd];exact hrun)
     ·split at hc
      ·rename_i b hal
       split at hc
       ·rename_i hkb;obtain⟨az,h1,rfl,h3⟩:=mk0 hc;cases h1;exact iU hi hx.kd hx.nt hop hcell (by rw[hd];exact h3) (by rw[hd];exact hrun)
       ·cases hc
      ·split at hc
       ·obtain⟨az,h1,rfl,h3⟩:=mk0 hc;exact WW hi hx.kd hx.nt hop hcell h1 (by rw[hd];exact h3) (by rw[hd];exact hrun)
       ·split at hc
        ·cases hc
        rename_i hn0;obtain⟨az,h1,rfl,h3⟩:=mk0 hc;exact oq hi hx.kd hx.nt hop hcell hn0 h1 (by rw[hd];exact h3) (by rw[hd];exact hrun)
   ·cases hc
  ·cases hc
 |some u=>
  simp only[Cs,hop,hd] at hc
  split at hc
  ·rename_i n ag hcell
   split at hc
   ·rename_i s
    split at hc
    ·cases hc
    ·rename_i hlt
     split at hc
     ·rename_i hk
      split at hc
      ·split at hc
       ·rename_i hcc;simp only[Ai] at hcc;cases hc;obtain⟨⟨h1,_⟩,rfl⟩:=hcc;exact vG hi hx.kd hx.nt hop hd (by rw[hx.kd];exact hk) hcell h1 hrun
       ·cases hc
      obtain⟨az,h1,rfl,h3⟩:=mk0 hc;cases h1;exact WX hi hx.kd hx.nt hop (by rw[hx.kd];exact hk) hcell (by rw[hd];exact h3) (by rw[hd];exact hrun)
     ·split at hc
      ·rename_i b hal
       split at hc
       ·rename_i hkb
        split at hc
        ·rename_i hcc;simp only[Ai,ES] at hcc
         split at hc
         ·rename_i hpd;cases hc;obtain⟨rfl,_⟩:=hcc;exact oo hi hx.kd hx.nt hop hd hcell hpd hrun
         ·cases hc
        ·obtain⟨az,h1,rfl,h3⟩:=mk0 hc;cases h1;exact iU hi hx.kd hx.nt hop hcell (by rw[hd];exact h3) (by rw[hd];exact hrun)
       ·cases hc
      ·split at hc
       ·rename_i hcc;obtain⟨az,h1,rfl,h3⟩:=mk0 hc;simp only[Ai,ES] at hcc;obtain⟨rfl,_⟩:=hcc;exact vH hi hx.kd hx.nt hop hd hcell h3 h1 hrun
       ·split at hc
        ·obtain⟨az,h1,rfl,h3⟩:=mk0 hc;exact WW hi hx.kd hx.nt hop hcell h1 (by rw[hd];exact h3) (by rw[hd];exact hrun)
        ·split at hc
         ·cases hc
         rename_i hn0;obtain⟨az,h1,rfl,h3⟩:=mk0 hc;exact oq hi hx.kd hx.nt hop hcell hn0 h1 (by rw[hd];exact h3) (by rw[hd];exact hrun)
   ·cases hc
  ·cases hc
theorem qg(hi:Inv cx G a w A σ)(hx:Ho cx fi){t:TypeId}{y x:Operand}(hop:o.op=.store t y x)(hc:Cs P pur fi rg o=some ao)(hrun:BU pur call ao A σ=some (A',σ')):Gives P cx o a w A' σ':=by
 simp only[Cs,hop] at hc
 split at hc
 ·rename_i n ag s hcell hd
  split at hc
  ·cases hc
  ·rename_i hlt
   split at hc
   ·rename_i hk;obtain⟨az,h1,rfl⟩:=Ac.1 hc;exact u7 hi hx.kd hop hd (by rw[hx.kd];exact hk) hcell h1 hrun
   ·rename_i hk;obtain⟨az,h1,rfl⟩:=Ac.1 hc;exact ve hi hx.kd hop hd (by rw[hx.kd,hk];rfl) hcell h1 hrun
   ·rename_i hnb _;have hnb':cx.kd s≠.box:=by rw[hx.kd];exact hnb
    split at hc
    ·rename_i b hal
     split at hc
     ·rename_i hkb
      split at hc
      ·rename_i u
       split at hc
       ·rename_i hcc;simp only[Ai,beq_iff_eq] at hcc;cases hc;exact og hi hx.kd hx.nt hop hd hcell hcc.2 hcc.1.2 hrun
       ·obtain⟨az,h1,rfl⟩:=Ac.1 hc;exact iQ hi hx.kd hop hd hcell h1 hrun
      ·obtain⟨az,h1,rfl⟩:=Ac.1 hc;exact iQ hi hx.kd hop hd hcell h1 hrun
     ·cases hc
    ·split at hc
     ·rename_i u
      split at hc
      ·rename_i hcc;simp only[Ai,beq_iff_eq] at hcc;cases hc;exact u6 hi hx.kd hx.nt hop hd hnb' hcell hcc.2 hcc.1.2 hrun
      ·obtain⟨az,h1,rfl⟩:=Ac.1 hc;exact oh hi hx.kd hop hd hnb' hcell h1 hrun
     ·obtain⟨az,h1,rfl⟩:=Ac.1 hc;exact oh hi hx.kd hop hd hnb' hcell h1 hrun
 ·cases hc
theorem ql(hi:Inv cx G a w A σ)(hx:Ho cx fi){op:BinOp}{t yt:TypeId}{x y:Operand}(hop:o.op=.binOp op t x y yt)(hc:Cs P pur fi rg o=some ao)(hrun:BU pur call ao A σ=some (A',σ')):Gives P cx o a w A' σ':=by
 simp only[Cs,hop] at hc
 split at hc
 ·obtain⟨az,h1,rfl,h3⟩:=mk0 hc;exact Ry hi hx.kd hx.nt hop (by simp) (by simp) h1 h3 hrun
 ·obtain⟨az,h1,rfl,h3⟩:=mk0 hc;exact Ry hi hx.kd hx.nt hop (by simp) (by simp) h1 h3 hrun
 ·rename_i ht;obtain⟨az,h1,rfl,h3⟩:=mk0 hc;exact Ry hi hx.kd hx.nt hop (fun _=>ht) (by simp) h1 h3 hrun
 ·rename_i ps rs v ht;obtain⟨az,h1,rfl,h3⟩:=mk0 hc;exact Ry hi hx.kd hx.nt hop (by simp) (fun _=>⟨ps,rs,v,ht⟩) h1 h3 hrun
 ·rename_i e ht
  split at hc
  ·obtain⟨az,h1,rfl,h3⟩:=mk0 hc;exact Zy hi hx.kd hx.nt (ne:=false) rfl hop ht h1 h3 hrun
  ·obtain⟨az,h1,rfl,h3⟩:=mk0 hc;exact Zy hi hx.kd hx.nt (ne:=true) rfl hop ht h1 h3 hrun
  ·obtain⟨az,h1,rfl,h3⟩:=mk0 hc;obtain⟨vs,rs,_,hs,_,_⟩:=NG rfl hrun;cases vs<;>simp[Be] at hs
 ·split at hc
  ·rename_i ts hts
   split at hc
   ·obtain⟨az,h1,rfl,h3⟩:=mk0 hc;exact iZ hi hx.kd hx.nt (ne:=false) rfl hop hts h1 h3 hrun
   ·obtain⟨az,h1,rfl,h3⟩:=mk0 hc;exact iZ hi hx.kd hx.nt (ne:=true) rfl hop hts h1 h3 hrun
   ·obtain⟨az,h1,rfl,h3⟩:=mk0 hc;obtain⟨vs,rs,_,hs,_,_⟩:=NG rfl hrun;cases vs<;>simp[Be] at hs
  ·obtain⟨az,h1,rfl,h3⟩:=mk0 hc;obtain⟨vs,rs,_,hs,_,_⟩:=NG rfl hrun;cases vs<;>simp[Be] at hs
theorem fM(hi:Inv cx G a w A σ)(hx:Ho cx fi){s t:TypeId}{x:Operand}(hop:o.op=.convert s t x)(hc:Cs P pur fi rg o=some ao)(hrun:BU pur call ao A σ=some (A',σ')):Gives P cx o a w A' σ':=by
 simp only[Cs,hop] at hc
 split at hc
 ·rename_i hs ht;obtain⟨az,h1,rfl,h3⟩:=mk0 hc;exact vR hi hx.kd hx.nt hop hs ht h1 h3 hrun
 ·rename_i e hs ht
  split at hc
  ·rename_i he hcell;obtain⟨az,h1,rfl,h3⟩:=mk0 hc;exact vT hi hx.kd hx.nt hop hs ht he h1 h3 hrun
  ·cases hc
 ·rename_i e' e hs ht
  split at hc
  ·rename_i u d he hd
   split at hc
   ·rename_i hst;rw[hd] at hc;obtain⟨az,h1,rfl,h3,h4,h5⟩:=mk1 hc;exact vS hi hx.kd hx.nt hop hst hd hs ht he h1 h3 h4 h5 hrun
   ·cases hc
  ·cases hc
 ·cases hc
theorem kY(hi:Inv cx G a w A σ)(hx:Ho cx fi){t:TypeId}{m:Operand}{k x:Operand}(hop:o.op=.insert t m k x)(hc:Cs P pur fi rg o=some ao)(hrun:BU pur call ao A σ=some (A',σ')):Gives P cx o a w A' σ':=by
 cases m with
 |tmp m=>
  simp only[Cs,hop] at hc
  split at hc
  ·rename_i kt et keys s ht hkm hps hd
   split at hc
   ·rename_i ik m' key hkt hks
    split at hc
    ·rename_i hcc;obtain⟨c1,rfl,c3,c4⟩:=hcc;obtain⟨az,h1,rfl⟩:=Ac.1 hc;exact iV hi hx.kd hop hd ht hkt (.inl ⟨ik,rfl⟩) c1 (by rw[hx.kd];exact hkm) (by rw[hx.kd];exact hks) h1 hrun
    ·cases hc
   ·rename_i m' key hkt hks
    split at hc
    ·rename_i hcc;obtain⟨c1,rfl,c3,c4⟩:=hcc;obtain⟨az,h1,rfl⟩:=Ac.1 hc;exact iV hi hx.kd hop hd ht hkt (.inr rfl) c1 (by rw[hx.kd];exact hkm) (by rw[hx.kd];exact hks) h1 hrun
    ·cases hc
   ·cases hc
  ·rename_i kt et ht hkm hd
   split at hc
   ·rename_i kd hkd;obtain⟨az,h1,rfl,h3⟩:=mk0 hc;rw[hd] at hrun;exact iP hi hx.kd (.inr hop) hd ht hkd h1 hrun
   ·cases hc
  ·cases hc
 |_=>simp[Cs,hop] at hc
theorem fK(hi:Inv cx G a w A σ)(hx:Ho cx fi){t:TypeId}{r:Option Operand}(hop:o.op=.makeMap t r)(hc:Cs P pur fi rg o=some ao)(hrun:BU pur call ao A σ=some (A',σ')):Gives P cx o a w A' σ':=by
 cases r with
 |some r=>simp[Cs,hop] at hc
 |none=>
  simp only[Cs,hop] at hc
  split at hc
  ·rename_i s kt et hd ht
   split at hc
   ·split at hc
    ·rename_i kd z hkd hz;obtain⟨az,h1,rfl,h3⟩:=mk0 hc;cases h1;rw[hd] at h3 hrun;exact vB hi hx.kd hx.nt hop hd h3 hrun
    ·cases hc
   ·rename_i keys hk
    split at hc
    ·rename_i hlt;cases hc;rw[hd] at hrun;exact vw hi hx.kd hop hd (by rw[hx.nt];exact hlt) (by rw[hx.kd];exact hk) hrun
    ·cases hc
   ·cases hc
  ·cases hc
theorem kX(hi:Inv cx G a w A σ)(hx:Ho cx fi){t:TypeId}{x i:Operand}{ok:Bool}(hop:o.op=.lookup t x i ok)(hc:Cs P pur fi rg o=some ao)(hrun:BU pur call ao A σ=some (A',σ')):Gives P cx o a w A' σ':=by
 simp only[Cs,hop] at hc
 split at hc
 ·split at hc
  ·rename_i kt et ht
   split at hc
   ·rename_i kd z hkt hz;obtain⟨az,h1,rfl,h3⟩:=mk0 hc;exact vF hi hx.kd hx.nt hop ht hkt hz h1 h3 hrun
   ·cases hc
  ·cases hc
 split at hc
 ·rename_i kt et ht
  split at hc
  ·rename_i ik z hkt hz;obtain⟨az,h1,rfl,h3⟩:=mk0 hc;exact ZA hi hx.kd hx.nt hop ht hkt (.inl ⟨ik,rfl⟩) hz h1 h3 hrun
  ·rename_i z hkt hz;obtain⟨az,h1,rfl,h3⟩:=mk0 hc;exact ZA hi hx.kd hx.nt hop ht hkt (.inr rfl) hz h1 h3 hrun
  ·cases hc
 ·cases hc
theorem xH(hi:Inv cx G a w A σ)(hx:Ho cx fi){t:TypeId}{x:Operand}{k1 k2:IntKind}{p q:Int}(hop:o.op=.slice t x none (some (.const (.int k1 p))) (some (.const (.int k2 q))))(hc:Cs P pur fi rg o=some ao)(hrun:BU pur call ao A σ=some (A',σ')):Gives P cx o a w A' σ':=by
 simp only[Cs,hop] at hc
 split at hc
 case isFalse=>cases hc
 rename_i hpq;obtain⟨rfl,rfl⟩:=hpq
 split at hc
 ·rename_i e ht
  split at hc
  ·rename_i ag hcell;obtain⟨az,h1,rfl,h3⟩:=mk0 hc;exact oD hi hx.kd hx.nt hop ht hcell h1 h3 hrun
  ·cases hc
 ·cases hc
theorem YE(hi:Inv cx G a w A σ)(hx:Ho cx fi){t:TypeId}{l c:Operand}(hop:o.op=.makeSlice t l c)(hc:Cs P pur fi rg o=some ao)(hrun:BU pur call ao A σ=some (A',σ')):Gives P cx o a w A' σ':=by
 simp only[Cs,hop] at hc
 split at hc
 ·rename_i e d ht hd
  split at hc
  ·rename_i it z hit hz
   split at hc
   ·rename_i hcc;rw[hd] at hc;obtain⟨az,h1,rfl,h3⟩:=mk0 hc;exact vv hi hx.kd hx.nt hop hd ht hit hz hcc.1 hcc.2.1 hcc.2.2 h1 h3 hrun
   ·cases hc
  ·cases hc
 ·cases hc
theorem qi(hi:Inv cx G a w A σ)(hx:Ho cx fi){t:TypeId}{x:Operand}{lo hi' mx:Option Operand}(hop:o.op=.slice t x lo hi' mx)(hc:Cs P pur fi rg o=some ao)(hrun:BU pur call ao A σ=some (A',σ')):Gives P cx o a w A' σ':=by
 cases mx with
 |some mx=>
  have hbad:∃k1 p k2 q,lo=none∧hi'=some (.const (.int k1 p))∧mx=.const (.int k2 q):=by
   simp only[Cs,hop] at hc
   split at hc<;>simp_all
  obtain⟨k1,p,k2,q,rfl,rfl,rfl⟩:=hbad;exact xH hi hx hop hc hrun
 |none=>
  simp only[Cs,hop] at hc
  split at hc
  ·rename_i ht
   split at hc
   ·rename_i az hcs;obtain⟨as',h1,rfl,h3⟩:=mk0 hc;cases h1;exact vg hi hx.kd hx.nt hop ht hcs h3 hrun
   ·cases hc
  ·rename_i e ht
   split at hc
   ·rename_i size ag az hcell hcs
    split at hc
    ·obtain⟨as',h1,rfl,h3⟩:=mk0 hc;cases h1;exact uZ hi hx.kd hx.nt hop ht hcell hcs h3 hrun
    ·cases hc
   ·cases hc
  ·cases hc
theorem iW(hi:Inv cx G a w A σ)(hx:Ho cx fi){t:TypeId}{s u f:Nat}(hop:o.op=.fieldAddr t (.tmp s) f)(hd:o.dst=some u)
  {fs:Array Field} {fl:Field} (hs:P.underlying t=some (.struct fs)) (hf:fs[f]?=some fl) {n:Nat} {ag:Bool} (hn:Cv P fl.type=some (n,ag)) (hn0:n≠0) (hlt:¬fi.nt≤s) (hnb:fi.kind s≠.box)
  (hal:∀b,fi.alias s=some b→fi.alias u=some b) (hpd:Dj fi u=true) (hrun:BU pur call { dst:=some u,k:=.p (.fa fl.offset n ag),args:=[.slot s] } A σ=some (A',σ')):Gives P cx o a w A' σ':=by
 by_cases hl:∃d' off,A.get s=some (.lref d' off)
 ·obtain⟨d',off,hg⟩:=hl;have hal1:=(Nl hi hg).2.1;rw[hx.al] at hal1;exact oz hi hx.kd hx.nt hx.al hop hd hs hf hn hn0 hal1 (hal _ hal1) hpd hg hrun
 ·have hval:(fi.kind s).val=true:=by
   obtain⟨vs,rs,he,hsem,_,_⟩:=NG rfl hrun;obtain⟨p,qs,rfl,hp,hq⟩:=Ar he;cases hq;obtain⟨hg,_⟩:=DT hp;have hsl:=hi.slot s p hg;rw[←hx.kd];cases hk:cx.kd s with
   |box=>exact absurd (by rw[←hx.kd];exact hk) hnb
   |mapb keys=>
    have:=((Ha hk).1 hsl).1;subst this;simp[Be,faV] at hsem
   |ent m key=>
    obtain⟨_,_,_,_,rfl,_⟩:=(Iw hk).1 hsl;simp[Be,faV] at hsem
   |_=>rfl
  refine AzK hi hx.kd hx.nt hop hs hf hn hn0 ?_ (QD hlt hval) (by rw[hd];exact hpd) (by rw[hd];exact hrun)
  rintro p d off rfl y hy he
  have:=QD hlt hval;simp only[Ap,hy] at this;cases this;exact hl ⟨d,off,(DT he).1⟩
theorem YG(hi:Inv cx G a w A σ)(hx:Ho cx fi){t:TypeId}{x:Operand}{f:Nat}(hop:o.op=.fieldAddr t x f)(hc:Cs P pur fi rg o=some ao)(hrun:BU pur call ao A σ=some (A',σ')):Gives P cx o a w A' σ':=by
 simp only[Cs,hop] at hc
 split at hc
 ·rename_i fs ht
  split at hc
  ·rename_i fl hf
   split at hc
   ·rename_i n ag hcell
    split at hc
    ·cases hc
    ·rename_i hn0
     split at hc
     ·rename_i s u hd
      split at hc
      ·cases hc
      ·rename_i hlt
       split at hc
       ·rename_i hk
        split at hc
        ·rename_i hal;obtain⟨az,h1,rfl,h3⟩:=mk0 hc;cases h1;rw[hd] at h3 hrun;exact vN hi hx.kd hx.nt hx.al hop hd ht hf hcell hn0 (by rw[hx.kd];exact hk) hal h3 hrun
        ·cases hc
       ·rename_i hnb
        split at hc
        ·rename_i b hal
         split at hc
         ·rename_i hcc;obtain⟨az,h1,rfl,h3⟩:=mk0 hc;cases h1;rw[hd] at h3 hrun;exact iW hi hx hop hd ht hf hcell hn0 hlt hnb (fun b' hb'=>by rw[hal] at hb';cases hb';exact hcc.1) h3 hrun
         ·cases hc
        ·rename_i hal;obtain⟨az,h1,rfl,h3⟩:=mk0 hc;cases h1;rw[hd] at h3 hrun;exact iW hi hx hop hd ht hf hcell hn0 hlt hnb (fun b' hb'=>by rw[hal] at hb';cases hb') h3 hrun
     ·cases hc
   ·cases hc
  ·cases hc
 ·cases hc
theorem ZB(hi:Inv cx G a w A σ)(hx:Ho cx fi){t e:TypeId}{s u:Nat}{i:Operand}(hop:o.op=.indexAddr t (.tmp s) i)(hd:o.dst=some u)
  {n:Nat} (ht:P.underlying t=some (.array n e)) {size:Nat} {ag:Bool} (hsz:Cv P e=some (size,ag)) (hlt:¬fi.nt≤s) (hnb:fi.kind s≠.box)
  (hal:∀b,fi.alias s=some b→fi.alias u=some b) (hpd:Dj fi u=true) {az:List CQ} (hc:Ap fi [i]=some az) (hrun:BU pur call { dst:=some u,k:=.p (.ixa n size ag),args:=.slot s::az } A σ=some (A',σ')):Gives P cx o a w A' σ':=by
 by_cases hl:∃d' off,A.get s=some (.lref d' off)
 ·obtain⟨d',off,hg⟩:=hl;have hal1:=(Nl hi hg).2.1;rw[hx.al] at hal1;exact ou hi hx.kd hx.nt hx.al hop hd ht hsz hal1 (hal _ hal1) hpd hg hc hrun
 ·have hval:(fi.kind s).val=true:=by
   obtain⟨vs,rs,he,hsem,_,_⟩:=NG rfl hrun;obtain⟨p,qs,rfl,hp,hq⟩:=Ar he;obtain⟨y,zs,rfl,hy,hz⟩:=AV hc;cases hz;obtain⟨q,qs,rfl,hp2,hq⟩:=Ar hq;cases hq;obtain⟨hg,_⟩:=DT hp;have hsl:=hi.slot s p hg;rw[←hx.kd];have hno:∀p,ixV n size ag p q=none→Be (.ixa n size ag) [p,q]=none:=fun p h=>by simp only[Be,h];rfl
   cases hk:cx.kd s with
   |box=>exact absurd (by rw[←hx.kd];exact hk) hnb
   |mapb keys=>
    have:=((Ha hk).1 hsl).1;subst this;rw[hno _ (by unfold ixV;split<;>first | rfl | (split<;>rfl))] at hsem;cases hsem
   |ent m key=>
    obtain⟨_,_,_,_,rfl,_⟩:=(Iw hk).1 hsl;rw[hno _ (by unfold ixV;split<;>first | rfl | (split<;>rfl))] at hsem;cases hsem
   |_=>rfl
  have hcs:=QD hlt hval
  have hc2:Ap fi [.tmp s,i]=some (.slot s::az):=by
   simp only[Ap] at hcs hc ⊢
   split at hcs
   ·rename_i y1 ys1 q1 q2;cases hcs;rw[q1]
    split at hc
    ·rename_i y2 ys2 q3 q4;cases hc;cases q4;rfl
    ·cases hc
   ·cases hcs
  refine vJ hi hx.kd hx.nt hop ht hsz ?_ hc2 (by rw[hd];exact hpd) (by rw[hd];exact hrun)
  rintro p d off rfl y hy he
  simp only[Ap,hy] at hcs;cases hcs;exact hl ⟨d,off,(DT he).1⟩
theorem YF(hi:Inv cx G a w A σ)(hx:Ho cx fi){t:TypeId}{x i:Operand}(hop:o.op=.indexAddr t x i)(hc:Cs P pur fi rg o=some ao)(hrun:BU pur call ao A σ=some (A',σ')):Gives P cx o a w A' σ':=by
 simp only[Cs,hop] at hc
 split at hc
 ·rename_i e ht
  split at hc
  ·rename_i size ag hcell
   split at hc
   ·obtain⟨az,h1,rfl,h3⟩:=mk0 hc;exact vK hi hx.kd hx.nt hop ht hcell h1 h3 hrun
   ·cases hc
  ·cases hc
 ·rename_i n e ht
  split at hc
  ·rename_i size ag hcell
   split at hc
   ·cases hc
   ·split at hc
    ·rename_i s u hd
     split at hc
     ·cases hc
     ·rename_i hlt
      split at hc
      ·rename_i hk
       split at hc
       ·rename_i hal;obtain⟨az,h1,rfl,h3⟩:=mk0 hc;obtain⟨as',h1',rfl⟩:=Ac.1 h1;rw[hd] at h3 hrun;exact vI hi hx.kd hx.nt hx.al hop hd ht hcell (by rw[hx.kd];exact hk) hal h3 h1' hrun
       ·cases hc
      ·rename_i hnb
       split at hc
       ·rename_i b hal
        split at hc
        ·rename_i hcc;obtain⟨az,h1,rfl,h3⟩:=mk0 hc;obtain⟨as',h1',rfl⟩:=Ac.1 h1;rw[hd] at h3 hrun;exact ZB hi hx hop hd ht hcell hlt hnb (fun b' hb'=>by rw[hal] at hb';cases hb';exact hcc.1) h3 h1' hrun
        ·cases hc
       ·rename_i hal;obtain⟨az,h1,rfl,h3⟩:=mk0 hc;obtain⟨as',h1',rfl⟩:=Ac.1 h1;rw[hd] at h3 hrun;exact ZB hi hx hop hd ht hcell hlt hnb (fun b' hb'=>by rw[hal] at hb';cases hb') h3 h1' hrun
    ·cases hc
  ·cases hc
 ·cases hc
theorem xI{ro:Option Nat}{n:Nat}{K:Act→World→Prop}{Q:Exit→Act→World→Prop}(hS:Ig P call)(hi:Inv cx G a w A σ)(hx:Ho cx fi){c:Call}(hop:o.op=.call c)(hc:Cs P pur fi rg o=some ao)
  (hrun:BU pur call ao A σ=some (A',σ')) (hk:∀a' w',Sim cx a' w' A' σ'→Kept o.dst a a'→K a' w'):o.wpIn (FW ro) n P a w K Q:=by
 have hnd:∀c',o.op≠.defer c':=by simp[hop]
 simp only[Cs,hop] at hc
 split at hc
 ·rename_i f hcal
  split at hc
  ·obtain⟨az,h1,rfl,h3⟩:=mk0 hc;exact AZT hS hi hx.kd hx.nt hop hcal h1 h3 hrun hk
  split at hc
  ·rename_i hm;obtain⟨d,hd⟩:=Dt.1 hm.2;obtain⟨az,h1,rfl,h3⟩:=mk0 hc;exact kD hS hi hx.kd hx.nt hop hcal hd h1 h3 hrun hk
  ·obtain⟨az,h1,rfl,h3⟩:=mk0 hc;exact oG hS hi hx.kd hx.nt hop hcal h1 h3 hrun hk
 ·rename_i x _ hcal;obtain⟨az,h1,rfl,h3⟩:=mk0 hc;exact kE hS hi hx.kd hx.nt hop hcal h1 h3 hrun hk
 ·rename_i hcal
  split at hc
  ·rename_i ht;obtain⟨az,h1,rfl,h3⟩:=mk0 hc;exact(iT hi hx.kd hx.nt hop hcal (.inl ⟨rfl,ht⟩) h1 h3 hrun).wp hnd hk
  ·rename_i e ht;obtain⟨az,h1,rfl,h3⟩:=mk0 hc;exact(iT hi hx.kd hx.nt hop hcal (.inr ⟨rfl,e,ht⟩) h1 h3 hrun).wp hnd hk
  ·rename_i kt et ht;obtain⟨az,h1,rfl,h3⟩:=mk0 hc;exact(vE hi hx.kd hx.nt hop hcal ht h1 h3 hrun).wp hnd hk
  ·cases hc
 ·rename_i hcal
  split at hc
  ·rename_i e ht;obtain⟨az,h1,rfl,h3⟩:=mk0 hc;exact(oF hi hx.kd hx.nt hop hcal ⟨e,ht⟩ h1 h3 hrun).wp hnd hk
  ·cases hc
 ·rename_i hcal
  split at hc
  ·split at hc
   ·rename_i s x y z d htys hargs hd;have htys':c.argTypes=#[s,x]:=by apply Cj.1;exact htys
    have hargs':c.args=#[y,z]:=by apply Cj.1;exact hargs
    split at hc
    ·rename_i e e' hs hxx
     split at hc
     ·rename_i it hit
      split at hc
      ·rename_i hcc;rw[hd] at hc;obtain⟨az,h1,rfl,h3⟩:=mk0 hc;exact(oI hi hx.kd hx.nt hop hcal hargs' htys' hd hs ⟨e',hxx⟩ hit hcc.1 hcc.2.1 hcc.2.2 h1 h3 hrun).wp hnd hk
      ·cases hc
     ·cases hc
    ·rename_i e k' hs hxx
     split at hc
     ·rename_i it zp hit hz
      split at hc
      ·rename_i hcc;rw[hd] at hc;obtain⟨az,h1,rfl,h3⟩:=mk0 hc;exact(oH hi hx.kd hx.nt hop hcal hargs' htys' hd hs hxx hit hz hcc.1 hcc.2.1 hcc.2.2 h1 h3 hrun).wp hnd hk
      ·cases hc
     ·cases hc
    ·cases hc
   ·cases hc
  split at hc
  ·rename_i s x u y d htys hargs hd;have htys':c.argTypes=#[s,x]:=by apply Cj.1;exact htys
   have hargs':c.args=#[.tmp u,y]:=by apply Cj.1;exact hargs
   split at hc
   ·rename_i e e' hs hxx
    split at hc
    ·rename_i it hit
     split at hc
     ·rename_i hcc;rw[hd] at hc;obtain⟨az,h1,rfl,h3,h4,h5⟩:=mk1 hc;exact(iX hi hx.kd hx.nt hop hcal hargs' htys' hd hs (.inl ⟨e',hxx⟩) hit hcc.1 hcc.2.1 hcc.2.2 h1 h3 h4 h5 hrun).wp hnd hk
     ·cases hc
    ·cases hc
   ·rename_i e hs hxx
    split at hc
    ·rename_i it hit
     split at hc
     ·rename_i hcc;rw[hd] at hc;obtain⟨az,h1,rfl,h3,h4,h5⟩:=mk1 hc;exact(iX hi hx.kd hx.nt hop hcal hargs' htys' hd hs (.inr hxx) hit (by omega) hcc.2.1 hcc.2.2 h1 h3 h4 h5 hrun).wp hnd hk
     ·cases hc
    ·cases hc
   ·cases hc
  ·cases hc
 ·rename_i hcal
  split at hc
  ·obtain⟨az,h1,rfl,h3⟩:=mk0 hc;exact(vC hi hx.kd hx.nt hop hcal h1 h3 hrun).wp hnd hk
  ·cases hc
 ·rename_i hcal
  split at hc
  ·obtain⟨az,h1,rfl,h3⟩:=mk0 hc;exact(vD hi hx.kd hx.nt hop hcal h1 h3 hrun).wp hnd hk
  ·cases hc
 ·cases hc
theorem qh{ro:Option Nat}{n:Nat}{K:Act→World→Prop}{Q:Exit→Act→World→Prop}(hS:Ig P call)(hi:Inv cx G a w A σ)(hx:Ho cx fi)(hc:Cs P pur fi rg o=some ao)
  (hrun:BU pur call ao A σ=some (A',σ')) (hk:∀a' w',Sim cx a' w' A' σ'→Kept o.dst a a'→K a' w'):o.wpIn (FW ro) n P a w K Q:=by
 have gv:Gives P cx o a w A' σ'→(∀c',o.op≠.defer c')→o.wpIn (FW ro) n P a w K Q:=fun h hd=>h.wp hd hk
 cases hop:o.op with
 |move x=>exact gv (xE hi hx hop hc hrun) (by simp[hop])
 |assign x=>exact gv (kZ hi hx hop hc hrun) (by simp[hop])
 |pick c x y=>
  refine gv ?_ (by simp[hop])
  simp only[Cs,hop] at hc;obtain⟨az,h1,rfl,h3⟩:=mk0 hc;exact om hi hx.kd hx.nt hop h1 h3 hrun
 |box t x=>exact gv (AwC hi hx hop hc hrun) (by simp[hop])
 |alloc t=>exact gv (qm hi hx hop hc hrun) (by simp[hop])
 |build t ps=>exact gv (qj hi hx hop hc hrun) (by simp[hop])
 |buildSlice t n ps=>exact gv (Vq hi hx hop hc hrun) (by simp[hop])
 |load t x=>exact gv (xG hi hx hop hc hrun) (by simp[hop])
 |store t x y=>exact gv (qg hi hx hop hc hrun) (by simp[hop])
 |nilCheck x=>
  refine gv ?_ (by simp[hop])
  simp only[Cs,hop] at hc;obtain⟨az,h1,rfl,h3⟩:=mk0 hc;exact vU hi hx.kd hx.nt hop h1 h3 hrun
 |binOp op t x y yt=>exact gv (ql hi hx hop hc hrun) (by simp[hop])
 |unOp op t x=>
  refine gv ?_ (by simp[hop])
  cases op with
  |not=>
   simp only[Cs,hop] at hc;obtain⟨az,h1,rfl,h3⟩:=mk0 hc;exact vk hi hx.kd hx.nt hop h1 h3 hrun
  |_=>simp[Cs,hop] at hc
 |convert s t x=>exact gv (fM hi hx hop hc hrun) (by simp[hop])
 |makeFunc fn first cap=>
  refine gv ?_ (by simp[hop])
  cases fn with
  |func f=>
   simp only[Cs,hop] at hc;obtain⟨az,h1,rfl,h3⟩:=mk0 hc;exact vz hi hx.kd hx.nt hop h1 h3 hrun
  |_=>simp[Cs,hop] at hc
 |makeMap t r=>exact gv (fK hi hx hop hc hrun) (by simp[hop])
 |makeSlice t l c=>exact gv (YE hi hx hop hc hrun) (by simp[hop])
 |insert t m k x=>exact gv (kY hi hx hop hc hrun) (by simp[hop])
 |lookup t x i ok=>exact gv (kX hi hx hop hc hrun) (by simp[hop])
 |mapUpdate t m k x=>
  refine gv ?_ (by simp[hop])
  simp only[Cs,hop] at hc
  split at hc
  ·rename_i kt et ht
   split at hc
   ·rename_i kd hkt hd;obtain⟨az,h1,rfl,h3⟩:=mk0 hc;rw[hd] at hrun;exact iP hi hx.kd (.inl hop) hd ht hkt h1 hrun
   ·cases hc
  ·cases hc
 |mapEntry t m k=>
  refine gv ?_ (by simp[hop])
  simp only[Cs,hop] at hc
  split at hc
  ·rename_i kt et ht
   split at hc
   ·rename_i kd z hkt hz;obtain⟨az,h1,rfl,h3⟩:=mk0 hc;exact vQ hi hx.kd hx.nt hop ht hkt hz h1 h3 hrun
   ·cases hc
  ·cases hc
 |entryStore t m i x=>
  refine gv ?_ (by simp[hop])
  simp only[Cs,hop] at hc
  split at hc
  ·rename_i hd;obtain⟨az,h1,rfl,h3⟩:=mk0 hc;rw[hd] at hrun;exact vP hi hx.kd hop hd h1 hrun
  ·cases hc
 |indexAddr t x i=>exact gv (YF hi hx hop hc hrun) (by simp[hop])
 |index t x i=>
  refine gv ?_ (by simp[hop])
  simp only[Cs,hop] at hc
  split at hc
  ·rename_i ht;obtain⟨az,h1,rfl,h3⟩:=mk0 hc;exact ol hi hx.kd hx.nt hop ht h1 h3 hrun
  ·cases hc
 |slice t x lo hi' mx=>exact gv (qi hi hx hop hc hrun) (by simp[hop])
 |fieldAddr t x f=>exact gv (YG hi hx hop hc hrun) (by simp[hop])
 |field t x f=>
  refine gv ?_ (by simp[hop])
  simp only[Cs,hop] at hc
  split at hc
  ·rename_i fs hs
   split at hc
   ·rename_i fl hf
    split at hc
    ·rename_i n ag hn;obtain⟨az,h1,rfl,h3⟩:=mk0 hc;exact vM hi hx.kd hx.nt hop hs hf hn h1 h3 hrun
    ·cases hc
   ·cases hc
  ·cases hc
 |extract x i=>
  refine gv ?_ (by simp[hop])
  simp only[Cs,hop] at hc;obtain⟨az,h1,rfl,h3⟩:=mk0 hc;exact vO hi hx.kd hx.nt hop h1 h3 hrun
 |call c=>exact xI hS hi hx hop hc hrun hk
 |panic x=>
  simp only[Cs,hop] at hc;obtain⟨az,h1,rfl,h3⟩:=mk0 hc;obtain⟨vs,rs,_,hs,_,_⟩:=NG rfl hrun;cases vs<;>simp[Be] at hs
 |makeInterface t x=>
  simp only[Cs,hop] at hc;obtain⟨az,h1,rfl,h3⟩:=mk0 hc;obtain⟨vs,rs,_,hs,_,_⟩:=NG rfl hrun;cases vs<;>simp[Be] at hs
 |_=>simp[Cs,hop] at hc
end
end Go.Abs

namespace Go.Abs
open Go.RowKit
section
variable{P:Program}{pur:FuncId→Bool}{call:Caller}{fi:FI}{cx:Cx}{G:Gh}{a:Act}{w:World}{A A':Frm}{σ σ':Sto}{rg:RG}{o:Oper}{ao:AOp}{ops:Array Oper}
theorem AwK{d:Option Nat}{k:AK}{args:Option (List CQ)}{ex:List Nat}(h:mk fi d k args ex=some ao):ao.dst=d:=by
 obtain⟨az,_,rfl,_⟩:=RJ h;rfl
theorem gU(h:Cs P pur fi rg o=some ao):ao.dst=o.dst:=by
 unfold Cs at h;dsimp only at h
 repeat' (split at h)
 all_goals first
  |(cases h;done)
  |exact AwK h
  |(cases h;rfl)
  |(cases h;simp_all;done)
  |(obtain⟨_,_,rfl⟩:=Ac.1 h;rfl)
  |(obtain⟨_,_,rfl⟩:=Ac.1 h;simp_all;done)
theorem Q9(h:Nu P pur fi rg o=some ao):ao.dst=o.dst:=by
 unfold Nu at h
 split at h
 ·rename_i a hc;cases h;exact gU hc
 ·cases h;rfl
theorem kW{ro:Option Nat}{n:Nat}{K:Act→World→Prop}{Q:Exit→Act→World→Prop}(hS:Ig P call)(hi:Inv cx G a w A σ)(hx:Ho cx fi)(hc:Nu P pur fi rg o=some ao)
  (hrun:BU pur call ao A σ=some (A',σ')) (hk:∀a' w',Sim cx a' w' A' σ'→Kept o.dst a a'→K a' w'):o.wpIn (FW ro) n P a w K Q:=by
 unfold Nu at hc
 split at hc
 ·rename_i a' hc';cases hc;exact qh hS hi hx hc' hrun hk
 ·cases hc;obtain⟨vs,rs,_,hs,_⟩:=J7 hrun;cases vs<;>simp[sem,Be] at hs
def yS(P:Program)(pur:FuncId→Bool)(fi:FI)(ops:Array Oper)(o:Oper)(ao:AOp):Prop:=
 ∃rg a,Nu P pur fi rg o=some a∧Lj fi ops o.guard=some ao.guard∧ao={ a with guard:=ao.guard }∧(ao.guard.isSome=true→a.ex=[]∧a.clr=[]∧BC fi a.dst=true)
theorem Ob{id:Nat}{rg:RG}:∀(l:List Oper) (j:Nat) (az:List AOp),PO P pur fi id rg ops j l=some az→
  az.length=l.length∧∀(i:Nat) (o:Oper) (ao:AOp),l[i]?=some o→az[i]?=some ao→yS P pur fi ops o ao
 |[],j,az,h=>by cases h;exact⟨rfl,fun i o ao h=>by simp at h⟩
 |o::l,j,az,h=>by
  simp only[PO] at h
  split at h
  ·rename_i a g as' h1 h2 h3
   split at h
   ·cases h
   ·rename_i hc;cases h;obtain⟨hl,hr⟩:=Ob l (j+1) as' h3;refine⟨by simp[hl],fun i o' ao' ho ha=>?_⟩
    cases i with
    |zero=>
     simp at ho ha;subst ho ha;refine⟨_,a,h1,h2,rfl,fun hg=>?_⟩
     have hc':¬(a.ex≠[]∨a.clr≠[]∨BC fi a.dst=false):=fun h=>hc ⟨hg,h⟩
     simp only[not_or,ne_eq,Classical.not_not,Bool.not_eq_false] at hc';exact hc'
    |succ i=>exact hr i o' ao' (by simpa using ho) (by simpa using ha)
  ·cases h
theorem VB(hi:Inv cx G a w A σ)(hx:Ho cx fi){g:Option (Nat×Bool)}(hg:Lj fi ops o.guard=some g){b:Bool}(hw:Ii A g=some b):Region.wanted o (yielded ops a.tmps)=b:=by
 unfold Region.wanted;cases hgu:o.guard with
 |none=>
  rw[hgu] at hg;simp only[Lj] at hg;cases hg;simp only[Ii] at hw;cases hw;rfl
 |some jb=>
  obtain⟨j,want⟩:=jb;rw[hgu] at hg;simp only[Lj] at hg
  split at hg
  ·rename_i t ht
   split at hg
   ·rename_i hp;cases hg;have hpl:=Fx hx.kd hx.nt hp;have hlt:t<a.tmps.size:=by rw[hi.size];exact hpl.1
    have hat:a.tmps[t]?=some (at' a t):=by simp[at',Array.getD,hlt]
    simp only[Ii] at hw
    split at hw
    ·rename_i c hc;cases hw;have hv:=((BZ hpl.2 rfl).1 (hi.slot t _ hc)).1.Ic;simp only[yielded,ht,Dx,hat,hv];cases c<;>cases want<;>rfl
    ·rename_i hc;cases hw;obtain⟨cs,hv,_⟩:=((BZ hpl.2 rfl).1 (hi.slot t _ hc)).1.VF;simp only[yielded,ht,Dx,hat,hv];rfl
    ·cases hw
   ·cases hg
  ·cases hg
theorem j5{I:Imm}{bl:Bl}:Bz I bl w undef JW:=by
 refine .tuple (cs:=#[]) rfl fun i p h=>by simp at h
theorem T9{ro:Option Nat}{n:Nat}{K:Act→World→Prop}{Q:Exit→Act→World→Prop}(hS:Ig P call)(hx:Ho cx fi){i:Nat}(ho:ops[i]?=some o)(hok:yS P pur fi ops o ao)(hsim:Sim cx a w A σ)
  (hex:GM pur call ao A σ=some (A',σ')) (hk:∀a' w',Sim cx a' w' A' σ'→Kept o.dst a a'→K a' w'):wpOpIn (FW ro) n P ops Q i K a w:=by
 obtain⟨G,hi⟩:=hsim;obtain⟨rg,a0,hc,hg,he,hpl⟩:=hok;unfold wpOpIn;rw[ho];dsimp only;unfold GM at hex
 split at hex
 ·rename_i hw;rw[VB hi hx hg hw,if_pos rfl];refine kW hS hi hx hc (pur:=pur) (A':=A') (σ':=σ') ?_ hk
  rw[he] at hex;exact hex
 ·rename_i hw;rw[VB hi hx hg hw,if_neg (by simp)]
  refine⟨fun _ _=>trivial,hk _ _ ⟨G,?_⟩ (MP _ _ _)⟩
  have hgs:ao.guard.isSome=true:=by
   cases hgg:ao.guard with
   |none=>rw[hgg] at hw;simp[Ii] at hw
   |some _=>rfl
  obtain⟨h1,h2,h3⟩:=hpl hgs
  split at hex
  ·cases hex
   have hdst:ao.dst=o.dst:=by
    have:=Q9 hc;rw[he];exact this
   have hex0:ao.ex=[]:=by rw[he];exact h1
   have hcl0:ao.clr=[]:=by rw[he];exact h2
   have hpd:BC fi o.dst=true:=by rw[←Q9 hc];exact h3
   have hA:Dm A ao.wr [some JW]=Jc A o.dst JW:=by
    simp only[AOp.wr,hex0,hcl0,hdst,Az];cases o.dst<;>rfl
   rw[hA];exact hi.NH (Ext.refl _ _ _) hi.base rfl o.dst (Ee hx.kd hx.nt hpd) rfl j5 (fun _ _=>trivial)
  ·cases hex
 ·cases hex
theorem Ua(h:GM pur call ao A σ=some (A',σ')):A'.length=A.length:=by
 unfold GM at h
 split at h
 ·unfold BU at h
  split at h
  ·split at h
   ·split at h
    ·cases h;exact Eh ..
    ·split at h
     ·cases h;rfl
     ·cases h
   ·cases h
  ·cases h
 ·split at h
  ·cases h;exact Eh ..
  ·cases h
 ·cases h
theorem Q8:∀(az:List AOp) {A A':Frm} {σ σ':Sto},I1 pur call az A σ=some (A',σ')→A'.length=A.length
 |[],A,A',σ,σ',h=>by cases h;rfl
 |ao::az,A,A',σ,σ',h=>by
  simp only[I1] at h
  split at h
  ·rename_i A1 σ1 h1;rw[Q8 az h,Ua h1]
  ·cases h
theorem kV{ro:Option Nat}{n:Nat}{Q:Exit→Act→World→Prop}(hS:Ig P call)(hx:Ho cx fi){az:List AOp}(hl:az.length=ops.size)
  (hok:∀(i:Nat) (o:Oper) (ao:AOp),ops[i]?=some o→az[i]?=some ao→yS P pur fi ops o ao) {A':Frm} {σ':Sto} {S:Nat→Prop} (hsp:∀t,S t→∀(i:Nat) (o:Oper),ops[i]?=some o→o.dst≠some t) {a0:Act} (hq:∀a' w',Sim cx a' w' A' σ'→(∀t,S t→at' a' t=at' a0 t)→Q .normal a' w') :
  ∀(d k:Nat),k+d=ops.size→∀(A:Frm) (σ:Sto),I1 pur call (az.drop k) A σ=some (A',σ')→∀a w,Sim cx a w A σ→(∀t,S t→at' a t=at' a0 t)→wpOpsIn (FW ro) n P ops Q (List.range' k d) a w:=by
 intro d
 induction d with
 |zero=>
  intro k hk A σ hex a w hs hf;rw[Cf (by omega)] at hex
  cases hex;exact hq a w hs hf
 |succ d ih=>
  intro k hk A σ hex a w hs hf;have hlt:k<az.length:=by omega
  rw[Cq hlt] at hex;simp only[I1] at hex
  split at hex
  ·rename_i A1 σ1 h1;rw[List.range'_succ,wpOpsIn_cons];have ho:ops[k]?=some ops[k]:=AJ (by omega)
   exact T9 hS hx ho (hok k _ _ ho (Ah hlt)) hs h1 (fun a' w' hs' hk'=>ih (k+1) (by omega) A1 σ1 hex a' w' hs' fun t ht=>(hk' t (hsp t ht k _ ho)).trans (hf t ht))
  ·cases hex
theorem Inv.drew(hi:Inv cx G a w A σ):Inv cx G a w.drew A σ:=by
 have:=hi.step (fun _=>False) none undef (Ki _) (Gy hi.base) rfl (fun t p hp=>.inl ⟨hp,by simp,fun _ h=>h,fun _ _ _ _=>by simp,fun _ _=>⟨by simp,fun h=>h⟩⟩) (fun _ cs hc=>.inl ⟨hc,fun _ h=>h⟩) hi.len hi.abl
 exact this
end
end Go.Abs
