/- A part of the proof: A39 A40 A41 A28. -/
import Derived.Test.YtngalibidopjlaaGreatDoorKab
import Derived.Laws.StructEq
import Derived.ChangeKeysEq
import Derived.Test.YtngalibidopjlaaGreatDoorKae

set_option linter.unusedVariables false
set_option linter.unusedSimpArgs false
namespace Go.Abs
open Go.RowKit
section
variable{P:Program}{pur:FuncId→Bool}{call:Caller}{fi:FI}{cx:Cx}{G:Gh}{a:Act}{w:World}{A A':Frm}{σ σ':Sto}
theorem eqL_nilL(t:Nat)(ts:List Nat)(ys:List PV):eqL (t::ts) [] ys=none:=rfl
theorem eqL_nilR(t:Nat)(ts:List Nat)(xs:List PV):eqL (t::ts) xs []=none:=by cases xs<;>rfl
theorem AjT{e:TypeId}{k:Nat}(h:scalT P e=some k):P.plainKey e=true:=by
 unfold scalT at h;unfold Program.plainKey
 split at h<;>simp_all
theorem run_eqC{e:TypeId}{k:Nat}(h:scalT P e=some k){x y:PV}{b:Bool}(he:eqC k x y=some b){I:Imm}{v u:Value}(hx:Rep I w v x)(hy:Rep I w u y)(d:Nat):(Op.equalIn (d+1) e v u).run P w=.ok b w:=by
 unfold scalT at h;cases x with
 |int k1 a1=>
  cases y with
  |int k2 a2=>
   simp only[eqC] at he
   split at he
   ·rename_i hc;obtain⟨rfl,rfl⟩:=hc;cases he;cases hx;cases hy
    split at h
    ·rename_i ki hu;exact run_equalIn_int w d e _ _ _ _ hu
    ·cases h
    ·cases h
    ·cases h
   ·cases he
  |_=>simp[eqC] at he
 |bool a1=>
  cases y with
  |bool a2=>
   simp only[eqC] at he
   split at he
   ·rename_i hc;subst hc;cases he;cases hx;cases hy
    split at h
    ·cases h
    ·rename_i hu;exact run_equalIn_bool w d e _ _ hu
    ·cases h
    ·cases h
   ·cases he
  |_=>simp[eqC] at he
 |str a1=>
  cases y with
  |str a2=>
   simp only[eqC] at he
   split at he
   ·rename_i hc;subst hc;cases he;cases hx with
    |str s1=>cases hy with
     |str s2=>
      split at h
      ·cases h
      ·cases h
      ·rename_i hu;rw[run_equalIn_string w d e _ _ hu,ByteArray.toList_eq,ByteArray.toList_eq]
      ·cases h
   ·cases he
  |_=>simp[eqC] at he
 |_=>simp[eqC] at he
theorem flatFs_get:∀(fs:List Field) (i:Nat) (ts:List Nat),AvP P i fs=some ts→ts.length=fs.length∧∀(j:Nat) (f:Field),fs[j]?=some f→f.name ≠ "_" ∧ f.offset=i+j∧∃k,scalT P f.type=some k∧ts[j]?=some k
 |[],i,ts,h=>by cases h;exact⟨rfl,fun j f h=>by simp at h⟩
 |f::fs,i,ts,h=>by
  rw[AvP] at h
  split at h
  ·rename_i k ks hk hks
   split at h
   ·rename_i hc;cases h;rw[Bool.and_eq_true,bne_iff_ne,beq_iff_eq] at hc;obtain⟨h1,h2⟩:=flatFs_get fs (i+1) ks hks;refine⟨by simp[h1],fun j g hg=>?_⟩
    cases j with
    |zero=>simp at hg;subst hg;exact⟨hc.1,hc.2,k,hk,rfl⟩
    |succ j=>
     obtain⟨q1,q2,q3⟩:=h2 j g (by simpa using hg)
     exact⟨q1,by omega,by simpa using q3⟩
   ·cases h
  ·cases h
theorem AJO(d:Nat){xs ys:List PV}{cx cy:Array Value}{I:Imm}(h1:cx.size=xs.length)(h2:cy.size=ys.length)(hx:∀(i:Nat) (p:PV),xs[i]?=some p→Rep I w (cx.getD i undef) p)(hy:∀(i:Nat) (p:PV),ys[i]?=some p→Rep I w (cy.getD i undef) p):
  ∀(fs:List Field) (i:Nat) (ts:List Nat) (b:Bool),AvP P i fs=some ts→eqL ts (xs.drop i) (ys.drop i)=some b→(Op.eqFields (d+1) cx cy fs).run P w=.ok b w
 |[],i,ts,b,hf,he=>by
  cases hf;simp only[eqL] at he;cases he;simp[Op.eqFields]
 |f::fs,i,ts,b,hf,he=>by
  rw[AvP] at hf
  split at hf
  ·rename_i k ks hk hks
   split at hf
   ·rename_i hc;cases hf;rw[Bool.and_eq_true,bne_iff_ne,beq_iff_eq] at hc;rcases Nat.lt_or_ge i xs.length with hi | hi
    ·rcases Nat.lt_or_ge i ys.length with hj | hj
     ·rw[List.drop_eq_getElem_cons hi,List.drop_eq_getElem_cons hj,eqL] at he;have r1:=hx i _ (List.getElem?_eq_getElem hi)
      have r2:=hy i _ (List.getElem?_eq_getElem hj)
      have c1:cx[i]?=some (cx.getD i undef):=by rw[Array.getD_eq_getD_getElem?,Array.getElem?_eq_getElem (by omega)];rfl
      have c2:cy[i]?=some (cy.getD i undef):=by rw[Array.getD_eq_getD_getElem?,Array.getElem?_eq_getElem (by omega)];rfl
      generalize cx.getD i undef=u1 at r1 c1;generalize cy.getD i undef=u2 at r2 c2;have p1:=run_part_plain (w:=w) (AjT hk) c1;have p2:=run_part_plain (w:=w) (AjT hk) c2;rw[←hc.2] at p1 p2;cases hb:eqC k xs[i] ys[i] with
      |none=>rw[hb] at he;cases he
      |some b1=>
       have e1:=run_eqC (w:=w) hk hb r1 r2 d;rw[hb] at he;cases b1 with
       |true=>
        have ih:=AJO d h1 h2 hx hy fs (i+1) ks b hks he;simp[Op.eqFields,hc.1,p1,p2,e1,ih]
       |false=>
        cases he;simp[Op.eqFields,hc.1,p1,p2,e1]
     ·rw[List.drop_eq_nil_of_le hj,eqL_nilR] at he;cases he
    ·rw[List.drop_eq_nil_of_le hi,eqL_nilL] at he;cases he
   ·cases hf
  ·cases hf
theorem AQZ(d:Nat){e:TypeId}{k:Nat}(hk:scalT P e=some k){it:TypeInfo}(hit:P.info? e=some it)(hc1:P.cellsOf e=1){xs ys:List PV}{cx cy:Array Value}{I:Imm}(h1:cx.size=xs.length)(h2:cy.size=ys.length)(hx:∀(i:Nat) (p:PV),xs[i]?=some p→Rep I w (cx.getD i undef) p)(hy:∀(i:Nat) (p:PV),ys[i]?=some p→Rep I w (cy.getD i undef) p):
  ∀(n i:Nat) (b:Bool),eqL (List.replicate n k) (xs.drop i) (ys.drop i)=some b→(Op.eqItems (d+1) e 1 cx cy (List.range' i n)).run P w=.ok b w
 |0,i,b,he=>by
  simp only[List.replicate_zero,eqL] at he;cases he;simp[Op.eqItems]
 |n+1,i,b,he=>by
  rw[List.replicate_succ] at he;rcases Nat.lt_or_ge i xs.length with hi | hi
  ·rcases Nat.lt_or_ge i ys.length with hj | hj
   ·rw[List.drop_eq_getElem_cons hi,List.drop_eq_getElem_cons hj,eqL] at he;have r1:=hx i _ (List.getElem?_eq_getElem hi)
    have r2:=hy i _ (List.getElem?_eq_getElem hj)
    have c1:cx[i]?=some (cx.getD i undef):=by rw[Array.getD_eq_getD_getElem?,Array.getElem?_eq_getElem (by omega)];rfl
    have c2:cy[i]?=some (cy.getD i undef):=by rw[Array.getD_eq_getD_getElem?,Array.getElem?_eq_getElem (by omega)];rfl
    generalize cx.getD i undef=u1 at r1 c1;generalize cy.getD i undef=u2 at r2 c2;have p1:=run_part_plain (w:=w) (AjT hk) c1;have p2:=run_part_plain (w:=w) (AjT hk) c2;rw[List.range'_succ];cases hb:eqC k xs[i] ys[i] with
    |none=>rw[hb] at he;cases he
    |some b1=>
     have e1:=run_eqC (w:=w) hk hb r1 r2 d;rw[hb] at he;cases b1 with
     |true=>
      have ih:=AQZ d hk hit hc1 h1 h2 hx hy n (i+1) b he;simp[Op.eqItems,p1,p2,e1,ih]
     |false=>
      cases he;simp[Op.eqItems,p1,p2,e1]
   ·rw[List.drop_eq_nil_of_le hj,eqL_nilR] at he;cases he
  ·rw[List.drop_eq_nil_of_le hi,eqL_nilL] at he;cases he
theorem AZ4{t:TypeId}{ts:List Nat}(h:AX6 P t=some ts){xs ys:List PV}{cx cy:Array Value}{I:Imm}(h1:cx.size=xs.length)(h2:cy.size=ys.length)(hx:∀(i:Nat) (p:PV),xs[i]?=some p→Rep I w (cx.getD i undef) p)(hy:∀(i:Nat) (p:PV),ys[i]?=some p→Rep I w (cy.getD i undef) p)
  {b:Bool} (he:eqL ts xs ys=some b):(Op.equalIn 10000 t (.agg cx) (.agg cy)).run P w=.ok b w∧P.eqGuardType P.depth t=false:=by
 unfold AX6 at h
 split at h
 ·cases h
 rename_i hs;rw[Bool.not_eq_true,Bool.or_eq_false_iff] at hs;refine⟨?_,hs.2⟩
 split at h
 ·rename_i fs hu;have hfo:P.fieldsOf t=fs:=by simp[Program.fieldsOf,hu]
  rw[run_equalIn_struct w 9999 t cx cy (by rw[hfo];exact hu) hs.1,hfo]
  exact AJO 9998 h1 h2 hx hy fs.toList 0 ts b h (by simpa using he)
 ·rename_i n e hu;obtain⟨k,hk,rfl⟩:=Option.map_eq_some_iff.1 h
  split at hk
  ·rename_i hc
   obtain⟨it,hit⟩:=info_of_underlying (show P.underlying e=some ((P.underlying e).getD default) by
    unfold scalT at hk
    split at hk<;>simp_all)
   rw[run_equalIn_array w 9999 cx cy hu hit,hc,List.range_eq_range'];exact AQZ 9998 hk hit hc h1 h2 hx hy n 0 b (by simpa using he)
  ·cases hk
 ·cases h
theorem intsOf_eq:∀{cs:List PV} {l:List (IntKind×Int)},AZP cs=some l→cs=l.map fun x=>PV.int x.1 x.2
 |[],l,h=>by cases h;rfl
 |c::cs,l,h=>by
  cases hl:AZP cs with
  |none=>simp[AZP,hl] at h
  |some l'=>
   cases c with
   |int k n=>
    simp only[AZP,hl] at h;cases h;rw[intsOf_eq hl];rfl
   |_=>simp[AZP] at h
theorem AXM{d:KD}{p:PV}{x:Kx}(h:kxOf d p=some x){v:Value}{I:Imm}{bl:Bl}(hr:RepT I bl w v p):v=x.val∧isKx d x=true:=by
 cases d with
 |i k0=>
  cases p with
  |int k n=>
   simp only[kxOf] at h
   split at h
   ·rename_i e;cases h;subst e;exact⟨hr.AqF,by simp[isKx]⟩
   ·cases h
  |_=>cases h
 |s=>
  cases p with
  |str l=>
   cases h;obtain⟨s,rfl,rfl⟩:=hr.Ax2;cases s;exact⟨rfl,rfl⟩
  |_=>cases h
 |a ks=>
  cases p with
  |agg cs=>
   simp only[kxOf] at h
   split at h
   ·rename_i l hl
    split at h
    case isFalse=>cases h
    rename_i hn;cases h;have e:=intsOf_eq hl;obtain⟨vs,rfl,h1,h2⟩:=hr.agg_inv;refine⟨?_,by simp only[isKx,beq_iff_eq];exact hn⟩
    show Value.agg vs=.agg _;congr 1;apply Array.toList_inj.1;refine List.ext_getElem? fun i=>?_
    rw[Array.getElem?_toList,List.getElem?_map]
    rw[e] at h1 h2;rw[List.length_map] at h1;rcases Nat.lt_or_ge i l.length with hi | hi
    ·have:=h2 i (.int l[i].1 l[i].2) (by rw[List.getElem?_map,List.getElem?_eq_getElem hi];rfl)
     rw[Array.getD_eq_getD_getElem?,Array.getElem?_eq_getElem (by omega),Option.getD_some] at this
     rw[Array.getElem?_eq_getElem (by omega),List.getElem?_eq_getElem hi]
     have hh:=(RepT.one (bl:=Bl.nil) (.inl this)).AqF;simp only[Option.map_some];rw[hh]
    ·rw[Array.getElem?_eq_none (by omega),List.getElem?_eq_none hi];rfl
   ·cases h
  |_=>cases h
theorem kx_free{d:KD}{p:PV}{x:Kx}(h:kxOf d p=some x):p.free=true:=by
 cases d<;>cases p<;>first | rfl | cases h
theorem Av1:∀{ks:List Kx} {x:Kx} {j:Nat},findX x ks=some j→ks[j]?=some x
 |[],x,j,h=>by cases h
 |k::ks,x,j,h=>by
  rw[findX] at h
  split at h
  ·rename_i e;cases h;rw[e];rfl
  ·obtain⟨i,hi,rfl⟩:=Option.map_eq_some_iff.1 h;simpa using Av1 hi
theorem eqL_ints:∀(l l':List (IntKind×Int)),l.map (·.1)=l'.map (·.1)→eqL (List.replicate l.length 0) (l.map fun x=>PV.int x.1 x.2) (l'.map fun x=>PV.int x.1 x.2)=some (decide (l'=l))
 |[],[],_=>by simp[eqL]
 |[],_::_,h=>by simp at h
 |_::_,[],h=>by simp at h
 |(k,a)::l,(k',b)::l',h=>by
  simp only[List.map_cons,List.cons.injEq] at h;obtain⟨rfl,h⟩:=h;have ih:=eqL_ints l l' h;simp only[List.length_cons,List.replicate_succ,List.map_cons,eqL,eqC];rw[if_pos ⟨trivial,trivial⟩];by_cases hab:a=b
  ·subst hab;simp[ih]
  ·rw[show(a==b)=false from beq_false_of_ne hab]
   simp[Ne.symm hab]
theorem flat_kinds:∀(fs:List Field) (i:Nat) (ts:List Nat) (ks:List IntKind),AvP P i fs=some ts→kindsI P fs=some ks→ts=List.replicate ks.length 0
 |[],i,ts,ks,h,h'=>by cases h;cases h';rfl
 |f::fs,i,ts,ks,h,h'=>by
  rw[AvP] at h
  split at h
  ·rename_i k us hk hus
   split at h
   ·cases h;unfold kindsI at h'
    split at h'
    ·rename_i ki kr hu hkr;cases h';rw[flat_kinds fs (i+1) us kr hus hkr,List.length_cons,List.replicate_succ];have:scalT P f.type=some 0:=by unfold scalT;rw[hu]
     rw[this] at hk;cases hk;rfl
    ·cases h'
   ·cases h
  ·cases h
theorem kd_flat{kt:TypeId}{ks:List IntKind}(h:kdOf P kt=some (.a ks)):∃fs,P.underlying kt=some (.struct fs)∧AX6 P kt=some (List.replicate ks.length 0):=by
 unfold kdOf at h
 split at h
 ·cases h
 ·cases h
 ·rename_i fs hu
  split at h
  ·rename_i ts ks' ht hks;cases h;refine⟨fs,hu,?_⟩
   rw[ht];unfold AX6 at ht
   split at ht
   ·cases ht
   rw[hu] at ht;rw[flat_kinds _ 0 ts ks ht hks]
  ·cases h
 ·cases h
theorem kd_plain{kt:TypeId}{d:KD}(h:kdOf P kt=some d):(∃k,d=.i k∧P.underlying kt=some (.int k))∨(d=.s∧P.underlying kt=some .string)∨∃n,d=.a n:=by
 unfold kdOf at h
 split at h
 ·rename_i k hu;cases h;exact .inl ⟨k,rfl,hu⟩
 ·rename_i hu;cases h;exact .inr (.inl ⟨rfl,hu⟩)
 ·split at h
  ·cases h;exact .inr (.inr ⟨_,rfl⟩)
  ·cases h
 ·cases h
theorem rep_ints{I:Imm}(l:List (IntKind×Int)):∀(i:Nat) (p:PV),(l.map fun x=>PV.int x.1 x.2)[i]?=some p→Rep I w ((l.map fun x=>Value.int x.1 x.2).toArray.getD i undef) p:=by
 intro i p hp;rw[List.getElem?_map] at hp
 obtain⟨x,hx,rfl⟩:=Option.map_eq_some_iff.1 hp;rw[Array.getD_eq_getD_getElem?,List.getElem?_toArray,List.getElem?_map,hx]
 exact .int _ _
theorem run_eqKx{kt:TypeId}{n:List IntKind}(h:kdOf P kt=some (.a n)){l l':List (IntKind×Int)}(hl:l.map (·.1)=n)(hl':l'.map (·.1)=n):(Op.equal kt (Kx.a l).val (Kx.a l').val).run P w=.ok (decide (Kx.a l'=Kx.a l)) w:=by
 obtain⟨fs,hu,ht⟩:=kd_flat h;have hs:l.map (·.1)=l'.map (·.1):=hl.trans hl'.symm;have hn:n.length=l.length:=by rw[←hl];simp
 have:=(AZ4 (w:=w) (I:=fun _ _=>False) ht (xs:=l.map fun x=>PV.int x.1 x.2) (ys:=l'.map fun x=>PV.int x.1 x.2) (cx:=(l.map fun x=>Value.int x.1 x.2).toArray) (cy:=(l'.map fun x=>Value.int x.1 x.2).toArray)
  (by simp) (by simp) (rep_ints l) (rep_ints l') (by rw[hn];exact eqL_ints l l' hs)).1
 have e:decide (Kx.a l'=Kx.a l)=decide (l'=l):=by
  by_cases hh:l'=l
  ·subst hh;simp
  ·simp[hh]
 rw[e];exact this
theorem AkR(em:Bool)(d:Nat)(cs:Array Value):∀(fs:List Field) (i:Nat) (ts:List Nat),AvP P i fs=some ts→i+fs.length≤cs.size→
  (forIn fs PUnit.unit (fun f _=>if f.name ≠ "_" then(do
   let x ← part f.type cs f.offset
   Instr.checkKey em (d+1) f.type x
   pure (ForInStep.yield PUnit.unit)) else pure (ForInStep.yield PUnit.unit)):Sem PUnit).run P w=.ok PUnit.unit w
 |[],i,ts,_,_=>by simp
 |f::fs,i,ts,h,hl=>by
  rw[AvP] at h
  split at h
  ·rename_i k ks hk hks
   split at h
   ·rename_i hc;rw[Bool.and_eq_true,bne_iff_ne,beq_iff_eq] at hc;simp only[List.length_cons] at hl;have ih:=AkR em d cs fs (i+1) ks hks (by omega)
    have p1:=run_part_plain (w:=w) (AjT hk) (show cs[f.offset]?=some cs[f.offset] from Array.getElem?_eq_getElem (by omega))
    have p2:(Instr.checkKey em (d+1) f.type cs[f.offset]).run P w=.ok () w:=by
     unfold scalT at hk
     split at hk
     ·rename_i hu;simp[Instr.checkKey,underlying,hu]
     ·rename_i hu;simp[Instr.checkKey,underlying,hu]
     ·rename_i hu;simp[Instr.checkKey,underlying,hu]
     ·cases hk
    simp only[List.forIn_cons,Sem.run_bind,hc.1,ne_eq,not_false_eq_true,if_true,Result.andThen_ok,p1,p2,Sem.run_pure];exact ih
   ·cases h
  ·cases h
theorem Ak7(em:Bool){kt:TypeId}{d:KD}(h:kdOf P kt=some d){x:Kx}(hx:isKx d x=true):(Instr.checkKey em 10000 kt x.val).run P w=.ok () w:=by
 rcases kd_plain h with⟨k,rfl,hu⟩ | ⟨rfl,hu⟩ | ⟨n,rfl⟩
 ·exact run_checkKey hu (.inl ⟨k,rfl⟩) _
 ·exact run_checkKey hu (.inr rfl) _
 ·obtain⟨fs,hu,ht⟩:=kd_flat h;cases x with
  |a l=>
   simp only[isKx,beq_iff_eq] at hx;have hn:n.length=l.length:=by rw[←hx];simp
   unfold AX6 at ht
   split at ht
   ·cases ht
   rw[hu] at ht;dsimp only at ht;have hlen:=(flatFs_get fs.toList 0 _ ht).1;rw[List.length_replicate] at hlen;show(Instr.checkKey em (9998+1+1) kt (.agg (l.map fun x=>Value.int x.1 x.2).toArray)).run P w=_
   rw[Instr.checkKey];simp only[Sem.run_bind,run_underlying hu,Result.andThen_ok];rw[←Array.forIn_toList]
   have h9:=AkR (w:=w) em 9998 (l.map fun x=>Value.int x.1 x.2).toArray fs.toList 0 _ ht (by
    rw[List.size_toArray,List.length_map];omega)
   rw[h9,Result.andThen_ok,Sem.run_pure]
  |_=>simp[isKx] at hx
theorem AQR{desc:TypeDesc}{d:KD}(hd:(∃k,desc=.int k∧d=.i k)∨desc=.string∧d=.s){x:Kx}(hx:isKx d x=true):∀(es:List MapEntry) (ks:List Kx) (s:Nat),es.map (·.key)=ks.map Kx.val→ks.all (isKx d)=true→
  Instr.findNow desc x.val es s=some ((findX x ks).bind fun j=>(es[j]?).map fun e=>(s+j,e.val))
 |[],[],s,_,_=>rfl
 |[],_::_,s,h,_=>by simp at h
 |_::_,[],s,h,_=>by simp at h
 |e::es,k::ks,s,h,hs=>by
  simp only[List.map_cons,List.cons.injEq] at h;simp only[List.all_cons,Bool.and_eq_true] at hs;have ih:=AQR hd hx es ks (s+1) h.2 hs.2
  have key:Instr.sameNow desc x.val e.key=some (decide (k=x)):=by
   rw[h.1];rcases hd with⟨k0,rfl,rfl⟩ | ⟨rfl,rfl⟩
   ·cases x with
    |i k1 a=>
     cases k with
     |i k2 b=>
      have hk1:k1=k0:=by simpa [isKx] using hx
      have hk2:k2=k0:=by simpa [isKx] using hs.1
      subst hk1;subst hk2;simp only[Kx.val,Instr.sameNow,if_true];by_cases hab:a=b
      ·subst hab;simp
      ·simp[hab,Ne.symm hab]
     |_=>simp[isKx] at hs
    |_=>simp[isKx] at hx
   ·cases x with
    |s a=>
     cases k with
     |s b=>
      simp only[Kx.val,Instr.sameNow,beq_toListBytes,ByteArray.toList_eq];by_cases hab:a=b
      ·subst hab;simp
      ·simp[hab,Ne.symm hab]
     |_=>simp[isKx] at hs
    |_=>simp[isKx] at hx
  rw[Instr.findNow,key,findX];by_cases hkx:k=x
  ·simp[hkx]
  ·rw[if_neg hkx,decide_eq_false hkx];dsimp only;rw[ih];cases findX x ks with
   |none=>rfl
   |some j=>simp[Nat.add_comm 1 j,Nat.add_assoc]
theorem AZ0{kt:TypeId}{n:List IntKind}(h:kdOf P kt=some (.a n)){l:List (IntKind×Int)}(hl:l.map (·.1)=n):∀(es:List MapEntry) (ks:List Kx) (s:Nat),es.map (·.key)=ks.map Kx.val→ks.all (isKx (.a n))=true→
  (Instr.findAsking kt (Kx.a l).val es s).run P w=.ok ((findX (.a l) ks).bind fun j=>(es[j]?).map fun e=>(s+j,e.val)) w
 |[],[],s,_,_=>by simp[Instr.findAsking,findX]
 |[],_::_,s,h,_=>by simp at h
 |_::_,[],s,h,_=>by simp at h
 |e::es,k::ks,s,he,hs=>by
  simp only[List.map_cons,List.cons.injEq] at he;simp only[List.all_cons,Bool.and_eq_true] at hs;have ih:=AZ0 h hl es ks (s+1) he.2 hs.2;cases k with
  |a l'=>
   have hk:l'.map (·.1)=n:=by simpa [isKx] using hs.1
   have e1:=run_eqKx (w:=w) h hl hk;rw[Instr.findAsking,findX];simp only[Sem.run_bind,he.1,e1,Result.andThen_ok];by_cases hkx:Kx.a l'=Kx.a l
   ·simp[hkx]
   ·rw[if_neg hkx,decide_eq_false hkx];simp only[Bool.false_eq_true,if_false];rw[ih];cases findX (.a l) ks with
    |none=>rfl
    |some j=>simp[Nat.add_comm 1 j,Nat.add_assoc]
  |_=>simp[isKx] at hs
theorem AvA{kt:TypeId}{d:KD}(h:kdOf P kt=some d){x:Kx}(hx:isKx d x=true){es:List MapEntry}{ks:List Kx}(he:es.map (·.key)=ks.map Kx.val)(hs:ks.all (isKx d)=true):
  (Instr.findKey kt x.val es).run P w=.ok ((findX x ks).bind fun j=>(es[j]?).map fun e=>(j,e.val)) w:=by
 rcases kd_plain h with⟨k,rfl,hu⟩ | ⟨rfl,hu⟩ | ⟨n,rfl⟩
 ·have:=AQR (.inl ⟨k,rfl,rfl⟩) hx es ks 0 he hs;simp only[Nat.zero_add] at this;simp[Instr.findKey,underlying,hu,this]
 ·have:=AQR (.inr ⟨rfl,rfl⟩) hx es ks 0 he hs;simp only[Nat.zero_add] at this;simp[Instr.findKey,underlying,hu,this]
 ·obtain⟨fs,hu,ht⟩:=kd_flat h;cases x with
  |a l=>
   have hx':l.map (·.1)=n:=by simpa [isKx] using hx
   have ha:=AZ0 (w:=w) h hx' es ks 0 he hs;simp only[Nat.zero_add] at ha;cases es with
   |nil=>
    cases ks with
    |nil=>simp[Instr.findKey,underlying,hu,Instr.findNow,findX]
    |cons _ _=>simp at he
   |cons e es=>
    have hn:Instr.findNow (.struct fs) (Kx.a l).val (e::es) 0=none:=by
     rw[Instr.findNow];simp[Instr.sameNow]
    simp[Instr.findKey,underlying,hu,hn,ha]
  |_=>simp[isKx] at hx
theorem zsame0_eq{x y:PV}(h:zsame0 x y=true):x=y:=by
 cases x<;>cases y<;>simp_all [zsame0]
theorem zsames_eq:∀{xs ys:List PV},AJH xs ys=true→xs=ys
 |[],[],_=>rfl
 |[],_::_,h=>by simp[AJH] at h
 |_::_,[],h=>by simp[AJH] at h
 |x::xs,y::ys,h=>by
  simp only[AJH,Bool.and_eq_true] at h;rw[zsame0_eq h.1,zsames_eq h.2]
theorem zsame_eq{x y:PV}(h:zsame x y=true):x=y:=by
 unfold zsame at h
 split at h
 ·rw[zsames_eq h]
 ·exact zsame0_eq h
theorem Aw7(m:Nat):∀l:List (IntKind×Int),(((l.map fun x=>Value.int x.1 x.2)).zip (l.map fun x=>Value.int x.1 x.2)).all (fun(x,y)=>Instr.sameBits m x y)=true
 |[]=>rfl
 |x::l=>by
  simp only[List.map_cons,List.zip_cons_cons,List.all_cons,Aw7 m l,Bool.and_true];cases m<;>simp[Instr.sameBits]
theorem AvT(x:Kx):(Instr.keyThatStays x.val x.val).run P w=.ok x.val w:=by
 have:Instr.sameBits 10000 x.val x.val=true:=by
  cases x with
  |i k n=>simp[Kx.val,Instr.sameBits]
  |s l=>simp[Kx.val,Instr.sameBits,beq_toListBytes]
  |a l=>
   show Instr.sameBits (9999+1) (.agg _) (.agg _)=true;rw[Instr.sameBits];simp only[beq_self_eq_true,Bool.true_and];exact Aw7 9999 l
 simp[Instr.keyThatStays,this]
end
end Go.Abs

namespace Go.Abs
open Go.RowKit
section
variable{P:Program}{pur:FuncId→Bool}{call:Caller}{fi:FI}{cx:Cx}{G:Gh}{a:Act}{w:World}{A A':Frm}{σ σ':Sto}
set_option linter.unusedVariables false
set_option linter.unusedSimpArgs false
theorem sim_aeq(hi:Inv cx G a w A σ)(hkd:∀t,cx.kd t=fi.kind t)(hnt:cx.nt=fi.nt){o:Oper}{ne:Bool}{op:BinOp}(hop:op=if ne then .neq else .eql){t yt:TypeId}{x y:Operand}(ho:o.op=.binOp op t x y yt){ts:List Nat}(ht:AX6 P t=some ts)
  {as:List AArg} (hc:Aq2 fi [x,y]=some as) (hd:Aq7 fi o.dst=true) (hrun:runA pur call { dst:=o.dst,k:=.p (.aeq ne ts),args:=as } A σ=some (A',σ')):Gives P cx o a w A' σ':=by
 refine AzR hi hkd hnt hd hrun fun vs rs he hs=>?_
 match vs,hs with
 |[.agg xs,.agg ys],hs=>
  simp only[semP] at hs;obtain⟨b,hb,rfl⟩:=Option.map_eq_some_iff.1 hs;obtain⟨x',x2,y1,y2,e,rfl,hy1,hy2,hp,hq⟩:=args2 hc he;cases e;obtain⟨c1,e1,l1,r1⟩:=(Aq5 hi hkd hy1 hp rfl).agg_inv;obtain⟨c2,e2,l2,r2⟩:=(Aq5 hi hkd hy2 hq rfl).agg_inv;obtain⟨h1,h2⟩:=AZ4 (w:=w) ht l1 l2 r1 r2 hb;refine⟨_,.bool (b != ne),rfl,rfl,?_,.one (.inl (.bool _)),fun _=>trivial⟩
  subst hop;cases ne with
  |true=>simp[execOp,ho,e1,e2,run_eqGuard_agg w _ t x y c1 c2 h2,run_neq_struct,h1]
  |false=>simp[execOp,ho,e1,e2,run_eqGuard_agg w _ t x y c1 c2 h2,run_eql_struct,h1]
theorem AzP{t e:TypeId}{n:Nat}(ht:P.underlying t=some (.array n e)){size:Nat}{ag:Bool}(hsz:AqG P e=some (size,ag)){k:IntKind}{z:Int}(hz:0≤z∧z<n)(b off:Nat):
  (Instr.indexAt t (.pointer (some ⟨b,off,none⟩)) (.int k z)).run P w=.ok (.pointer (some ⟨b,off+z.toNat * size,none⟩)) w:=by
 have hs':=run_sizeOf (P:=P) (w:=w) hsz;simp[Instr.indexAt,asIntOf,underlying,ht,hz,hs',Instr.sureAddr,Ax5]
theorem sim_ixa(hi:Inv cx G a w A σ)(hkd:∀t,cx.kd t=fi.kind t)(hnt:cx.nt=fi.nt){o:Oper}{t e:TypeId}{x i:Operand}(ho:o.op=.indexAddr t x i){n:Nat}(ht:P.underlying t=some (.array n e)){size:Nat}{ag:Bool}(hsz:AqG P e=some (size,ag))
  (hnl:∀p,∀d off,p=PV.lref d off→∀y,AxQ fi x=some y→Aq8 A [y]≠some [p])
  {as:List AArg} (hc:Aq2 fi [x,i]=some as) (hd:Aq7 fi o.dst=true) (hrun:runA pur call { dst:=o.dst,k:=.p (.ixa n size ag),args:=as } A σ=some (A',σ')):Gives P cx o a w A' σ':=by
 refine AzR hi hkd hnt hd hrun fun vs rs he hs=>?_
 obtain⟨p,q,r,rfl,hv,rfl⟩:=AJK (V:=ixV n size ag) (k:=.ixa n size ag) (fun _ _=>rfl) rfl (fun _=>rfl) (fun _ _ _ _=>rfl) vs rs hs
 obtain⟨x',x2,y1,y2,e',rfl,hy1,hy2,hp,hq⟩:=args2 hc he;cases e';cases q with
 |int k z=>
  have ei:=(Aq5 hi hkd hy2 hq rfl).AqF;simp only[ixV] at hv
  split at hv
  case isFalse=>cases hv
  rename_i hz;cases p with
  |vptr v=>
   obtain⟨b,off,cv,ev,h1,h2,h3⟩:=(Aq5 hi hkd hy1 hp rfl).Ak4;simp only[faV] at hv;obtain⟨u,hu,rfl⟩:=Option.map_eq_some_iff.1 hv;have hsc:=Aw4 hu;refine⟨_,.pointer (some ⟨b,off+z.toNat * size,none⟩),rfl,rfl,by simp[execOp,ho,ev,ei,AzP ht hsz hz],?_,fun _=>trivial⟩
   refine .one (.inl (.vptr (fun j=>cv (z.toNat * size+j)) (fun j q hq=>?_) (fun j q hq=>?_) (fun j q hq=>?_)))
   ·have:=h1 _ _ (hsc j q hq);rw[←Nat.add_assoc] at this;exact this
   ·have:=h2 _ _ (hsc j q hq);rw[←Nat.add_assoc] at this;exact this
   ·exact h3 _ _ (hsc j q hq)
  |ref id off=>
   obtain⟨b,h1,ev⟩:=(Aq5 hi hkd hy1 hp rfl).AjK;simp only[faV] at hv;cases hv;exact⟨_,.pointer (some ⟨b,off+z.toNat * size,none⟩),rfl,rfl,by simp[execOp,ho,ev,ei,AzP ht hsz hz],.one (.inr (.ref h1)),fun _=>trivial⟩
  |aptr id gen sz i' off=>
   obtain⟨b,base,n',h1,ev⟩:=(Aq5 hi hkd hy1 hp rfl).AkI;simp only[faV] at hv;cases hv;exact⟨_,.pointer (some ⟨b,base+i' * sz+(off+z.toNat * size),none⟩),rfl,rfl,by simp[execOp,ho,ev,ei,AzP ht hsz hz,Nat.add_assoc],.one (.inr (.aptr h1)),fun _=>trivial⟩
  |lref d off=>exact absurd hp (hnl _ d off rfl y1 hy1)
  |_=>simp[faV] at hv
 |_=>simp[ixV] at hv
theorem sim_ixl(hi:Inv cx G a w A σ)(hkd:∀t,cx.kd t=fi.kind t)(hnt:cx.nt=fi.nt)(hal:∀t,cx.al t=fi.alias t){o:Oper}{t e:TypeId}{d u:Nat}{i:Operand}(ho:o.op=.indexAddr t (.tmp d) i)(hou:o.dst=some u)
  {n:Nat} (ht:P.underlying t=some (.array n e)) {size:Nat} {ag:Bool} (hsz:AqG P e=some (size,ag)) (hk:cx.kd d=.box) (hau:fi.alias u=some d) (hd:AqK fi u=true)
  {as:List AArg} (hc:Aq2 fi [i]=some as) (hrun:runA pur call { dst:=some u,k:=.p (.ixl d n size),args:=.slot d::as } A σ=some (A',σ')):Gives P cx o a w A' σ':=by
 obtain⟨vs,rs,he,hs,rfl,hA⟩:=run1 hrun;obtain⟨y,zs,rfl,hy,hz⟩:=Aq3 hc;cases hz;obtain⟨c,qs,rfl,hp,hq⟩:=Aq1 he;obtain⟨q,qs,rfl,hp2,hq⟩:=Aq1 hq;cases hq;cases q with
 |int k z=>
  simp only[semP] at hs
  split at hs
  case isFalse=>cases hs
  rename_i hz;have ei:=(Aq5 hi hkd hy hp2 rfl).AqF;obtain⟨hg,_⟩:=AqQ he;obtain⟨b,hb,hcell⟩:=(AqM hk).1 (hi.slot d c hg);rw[hA _ (Option.some.inj hs).symm];have hev:a.eval (.tmp d)=.pointer (some ⟨b,0,none⟩):=hb;refine .inl ⟨.pointer (some ⟨b,z.toNat * size,none⟩),w,?_,G,?_⟩
  ·have:=AzP (P:=P) (w:=w) ht hsz (k:=k) hz b 0;rw[Nat.zero_add] at this;simp[execOp,ho,hev,ei,this]
  ·rw[hou];exact hi.putRef (AxN hkd hnt hd) hk (by rw[hal];exact hau) hb
 |_=>simp[semP] at hs
theorem sim_ixa2(hi:Inv cx G a w A σ)(hkd:∀t,cx.kd t=fi.kind t)(hnt:cx.nt=fi.nt)(hal:∀t,cx.al t=fi.alias t){o:Oper}{t e:TypeId}{s d u:Nat}{i:Operand}(ho:o.op=.indexAddr t (.tmp s) i)(hou:o.dst=some u)
  {n:Nat} (ht:P.underlying t=some (.array n e)) {size:Nat} {ag:Bool} (hsz:AqG P e=some (size,ag))
  (has:fi.alias s=some d) (hau:fi.alias u=some d) (hd:AqK fi u=true) {off:Nat} {d':Nat} (hgs:A.get s=some (.lref d' off))
  {as:List AArg} (hc:Aq2 fi [i]=some as) (hrun:runA pur call { dst:=some u,k:=.p (.ixa n size ag),args:=.slot s::as } A σ=some (A',σ')):Gives P cx o a w A' σ':=by
 obtain⟨vs,rs,he,hs,rfl,hA⟩:=run1 hrun;obtain⟨y,zs,rfl,hy,hz⟩:=Aq3 hc;cases hz;obtain⟨c,qs,rfl,hp,hq⟩:=Aq1 he;obtain⟨q,qs,rfl,hp2,hq⟩:=Aq1 hq;cases hq;obtain⟨hg,_⟩:=AqQ he;rw[hgs] at hg;cases hg;cases q with
 |int k z=>
  simp only[semP,ixV] at hs
  split at hs
  case isFalse=>cases hs
  rename_i hz;simp only[faV] at hs;have ei:=(Aq5 hi hkd hy hp2 rfl).AqF;rw[hA _ (Option.some.inj hs).symm]
  have hdd:d'=d:=by
   have:=(AQL hi hgs).2.1;rw[hal,has] at this;exact(Option.some.inj this).symm
  subst hdd;obtain⟨hk,b,hb,hss⟩:=AvC hi hgs;have hev:a.eval (.tmp s)=.pointer (some ⟨b,off,none⟩):=hss;refine .inl ⟨.pointer (some ⟨b,off+z.toNat * size,none⟩),w,?_,G,?_⟩
  ·simp[execOp,ho,hev,ei,AzP (P:=P) (w:=w) ht hsz (k:=k) hz b off]
  ·rw[hou];exact hi.putRef (AxN hkd hnt hd) hk (by rw[hal];exact hau) hb
 |_=>simp[semP,ixV] at hs
theorem AZH(hi:Inv cx G a w A σ){id:Nat}{d:KD}{z:PV}{ks:List Kx}{vs:List PV}(h:mapOf σ[id]?=some (d,z,ks,vs)):id<σ.length∧∃b,G.bl.l[id]?=some b∧MapOk G w b id d ks vs:=by
 unfold mapOf at h
 split at h
 ·rename_i d' z' ks' vs' hσ;cases h;obtain⟨b,h1,h2⟩:=hi.obj id _ hσ;refine⟨(List.getElem?_eq_some_iff.1 hσ).1,b,h1,?_⟩
  rcases h2 with h2 | ⟨t,e,l,h,_⟩ | h | ⟨_,_,_,h,_⟩ | ⟨d',z',ks',vs',h,h2⟩
  ·obtain⟨_,_,cs,_,_,_,h⟩:=h2;rcases h 0 _ rfl with⟨h,_⟩ | ⟨h,_⟩
   ·exact absurd h.free (by simp[PV.free])
   ·cases h
  ·cases h
  ·cases h
  ·cases h
  ·cases h;exact h2
 ·cases h
theorem MapOk.keys{ks:List Kx}{vs:List PV}{es:Array MapEntry}(hn:es.size=ks.length)(h:∀(j:Nat) (e:MapEntry),es[j]?=some e→e.born=j∧(ks[j]?).map Kx.val=some e.key∧∀p,vs[j]?=some p→RepT G.I G.bl w e.val p):es.toList.map (·.key)=ks.map Kx.val:=by
 refine List.ext_getElem? fun i=>?_
 rw[List.getElem?_map,List.getElem?_map,Array.getElem?_toList]
 rcases Nat.lt_or_ge i es.size with hi | hi
 ·rw[(h i _ (Array.getElem?_eq_getElem hi)).2.1,Array.getElem?_eq_getElem hi];rfl
 ·rw[Array.getElem?_eq_none hi,List.getElem?_eq_none (by omega)];rfl
def setB(w:World)(r:Nat)(o:Obj):World:={ w with heap:=w.heap.setIfInBounds r o }
theorem setB_one(w:World)(r:Nat)(o:Obj):AzO r w (setB w r o):=
 ⟨fun k hk=>by show(w.heap.setIfInBounds r o)[k]?=_;rw[Array.getElem?_setIfInBounds_ne (fun e=>hk e.symm)],by simp[setB],rfl,rfl,rfl⟩
theorem setB_at{r:Nat}{o o':Obj}(h:w.heap[r]?=some o'):(setB w r o).heap[r]?=some o:=by
 have hrl:r<w.heap.size:=(Array.getElem?_eq_some_iff.1 h).1
 show(w.heap.setIfInBounds r o)[r]?=_;simp[hrl]
theorem AwO(hi:Inv cx G a w A σ){id b:Nat}{d:KD}{ks:List Kx}{vs:List PV}(z:PV)(hb:G.bl.l[id]?=some b)(hm:MapOk G w b id d ks vs)(hid:id<σ.length){es':Array MapEntry}{ks':List Kx}{vs':List PV}(hkd':ks'.all (isKx d)=true)(hl:vs'.length=ks'.length)(hn:es'.size=ks'.length)
  (h:∀(j:Nat) (e:MapEntry),es'[j]?=some e→e.born=j∧(ks'[j]?).map Kx.val=some e.key∧∀p,vs'[j]?=some p→RepT G.I G.bl w e.val p):Inv cx G a (setB w b (.map es' es'.size)) A (σ.set id [.mapo d z ks' vs']):=by
 obtain⟨hω,hI,_,es,hes,_,_⟩:=hm;have hob:=setB_one w b (.map es' es'.size);have hext:=AZV (X:=fun tg=>tg=.obj id none) hob hω hI rfl
 have hbase:=base_block hi.base hob hω hI
 exact hi.AZE (X:=fun tg=>tg=.obj id none) (T:=fun _=>False) none undef (fun _ h=>by cases h) hid
  ⟨b,hb,.inr (.inr (.inr (.inr ⟨d,z,ks',vs',rfl,hω,hI,⟨hl,hkd'⟩,es',setB_at hes,hn,fun j e he=>⟨(h j e he).1,(h j e he).2.1,fun p hp=>((h j e he).2.2 p hp).mono hext.I hext.same hext.bl⟩⟩)))⟩
  hext hbase rfl (fun tg h=>.inl ⟨none,h⟩) (fun _ h=>h.elim) rfl (fun t p hp=>.inl ⟨fun h=>h,by simp,hp⟩)
theorem zero_run{e:TypeId}{z:PV}(hz:zeroP P e=some z)(I:Imm):∃zv,(∀u:World,(zeroValue e).run P u=.ok zv u)∧(∀u:World,Rep I u zv z)∧z.free=true:=by
 unfold zeroP at hz
 split at hz
 ·rename_i it hit;obtain⟨zv,hzv,hzp⟩:=Option.bind_eq_some_iff.1 hz;exact⟨zv,fun u=>by simp[zeroValue,typeInfo,hit,hzv],fun u=>AxF hzp,AQQ hzp⟩
 ·cases hz
theorem set_dst{ao:AOp}{d:Option Nat}{p:PV}(hd:ao.dst=d)(hex:ao.ex=[])(hcl:ao.clr=[])(h1:([some p]:List (Option PV)).length=ao.dst.toList.length+ao.ex.length→A'=AqO A ao.wr ([some p]++ao.clr.map fun _=>none))
  (h2:([some p]:List (Option PV)).length≠ao.dst.toList.length+ao.ex.length→A'=A∧ao.dst=none):A'=setO A d p:=by
 subst hd;cases hdd:ao.dst with
 |none=>exact(h2 (by rw[hdd,hex];simp)).1
 |some t=>
  rw[h1 (by rw[hdd,hex];simp)]
  simp[AOp.wr,hdd,hex,hcl,AqO,setO]
theorem sim_mkM(hi:Inv cx G a w A σ)(hkd:∀t,cx.kd t=fi.kind t)(hnt:cx.nt=fi.nt){o:Oper}{t:TypeId}(ho:o.op=.makeMap t none){d:Nat}(hod:o.dst=some d)(hd:AqK fi d=true){z:PV}{kd:KD}
  (hrun:runA pur call { dst:=some d,k:=.w (.mkM z kd),args:=[] } A σ=some (A',σ')):Gives P cx o a w A' σ':=by
 obtain⟨vs,rs,he,hs,hA,_⟩:=runK hrun;cases he;simp only[sem,semW] at hs;cases hs;rw[hA rfl];obtain⟨hdl,hk⟩:=AxN hkd hnt hd;refine .inl ⟨.map (some w.heap.size),w.alloc (.map #[] 0),by simp[execOp,ho,Instr.makeMap],?_⟩
 rw[hod]
 let G1:=G.newB w.heap.size (fun _=>False) (some (.obj σ.length none))
 let G':Gh:={ G1 with bl:=⟨G.bl.l++[w.heap.size],G.bl.ab⟩ }
 have hext1:=AxD (fun _=>False) hi.base (.map #[] 0) (fun _=>False) (some (.obj σ.length none))
 have hext:Ext (fun _=>False) G G' w (w.alloc (.map #[] 0)):=⟨hext1.I,hext1.same,⟨List.prefix_append _ _,fun _ _ _ h=>h⟩,fun _ _ _ _=>rfl,hext1.fix⟩
 have hb1:=Ax0 hi.base (.map #[] 0) (fun _=>False) (some (.obj σ.length none))
 have hbase:Base cx G' (w.alloc (.map #[] 0)):={ hb1 with bl:=hi.base.bl.trans ⟨List.prefix_append _ _,fun _ _ _ h=>h⟩ }
 have hbl:G'.bl.l[σ.length]?=some w.heap.size:=by
  show(G.bl.l++[w.heap.size])[σ.length]?=_;rw[←hi.len];simp
 refine⟨G',hi.step _ (some d) _ hext hbase (by simp[AqO,AOp.wr]) ?_ ?_ ?_ (fun id g x h=>by have:=hi.abl id g x h;simp;omega)⟩
 ·intro s q hq;simp only[AOp.wr,Option.toList,List.map_nil,List.append_nil,List.cons_append,List.nil_append,AqO] at hq;rw[AqL] at hq
  split at hq
  ·rename_i hc;cases hq;refine .inr ?_
   rw[hc.1,Aq9 hk rfl,AxH _ _ _ (by rw[hi.size];exact hdl)]
   exact⟨.one (.inr (.mref hbl)),trivial⟩
  ·rename_i hc;have hsd:s≠d:=fun e=>hc ⟨e,by have:=hi.room;omega⟩
   refine .inl ⟨hq,fun e=>hsd (Option.some.inj e).symm,fun j h=>h,fun d' off e hbx hdd=>?_,fun m hm=>⟨fun e=>?_,fun h=>h⟩⟩
   ·cases hdd;rw[hbx] at hk;simp[SK.val] at hk
   ·cases e;obtain⟨keys,hkm⟩:=cx.ents s d hm;rw[hkm] at hk;simp[SK.val] at hk
 ·intro id cs' hc;by_cases hid:id<σ.length
  ·rw[List.getElem?_append_left hid] at hc
   exact .inl ⟨hc,fun _ h=>h⟩
  ·have:id=σ.length:=by
    have:=(List.getElem?_eq_some_iff.1 hc).1
    simp at this;omega
   subst this;simp at hc;subst hc;refine .inr ⟨w.heap.size,hbl,.inr (.inr (.inr (.inr ⟨kd,z.Aq0,[],[],rfl,if_pos rfl,?_,⟨rfl,rfl⟩,#[],heap_alloc_new' _ _,rfl,fun j e h=>by simp at h⟩)))⟩
   rintro x (h | ⟨_,h⟩)
   ·have:=hi.base.lt _ _ h;omega
   ·exact h
 ·show(G.bl.l++[w.heap.size]).length=_;simp[hi.len]
theorem sim_lnM(hi:Inv cx G a w A σ)(hkd:∀t,cx.kd t=fi.kind t)(hnt:cx.nt=fi.nt){o:Oper}{c:Call}(ho:o.op=.call c)(hb:c.callee=.builtin .len){kt et:TypeId}(ht:c.argTypes.toList.map P.underlying=[some (.map kt et)])
  {as:List AArg} (hc:Aq2 fi c.args.toList=some as) (hd:Aq7 fi o.dst=true) (hrun:runA pur call { dst:=o.dst,k:=.r .lnM,args:=as } A σ=some (A',σ')):Gives P cx o a w A' σ':=by
 obtain⟨vs,rs,he,hs,hA1,hA2⟩:=runK hrun;simp only[sem] at hs;obtain⟨rs',hs2,e⟩:=Option.map_eq_some_iff.1 hs;cases e
 obtain⟨t,htys,htu⟩:∃t,c.argTypes=#[t]∧P.underlying t=some (.map kt et):=by
  cases h:c.argTypes.toList with
  |nil=>rw[h] at ht;simp at ht
  |cons t r=>cases r with
   |nil=>rw[h] at ht;exact⟨t,Array.toList_inj.1 h,by simpa using ht⟩
   |cons _ _=>rw[h] at ht;simp at ht
 match vs,hs2 with
 |[.mref id],hs2=>
  simp only[semR] at hs2
  split at hs2
  ·rename_i d' z' ks ws hm;cases hs2;obtain⟨x,y,hxs,rfl,hy,hp⟩:=args1 hc he;obtain⟨hid,b,hb1,hmo⟩:=AZH hi hm;obtain⟨b',hb2,ev⟩:=(Aq5 hi hkd hy hp rfl).AkB;rw[hb1] at hb2;cases hb2;obtain⟨_,_,_,es,hes,hsz,_⟩:=hmo;have hargs:c.args=#[x]:=Array.toList_inj.1 hxs;rw[set_dst (ao:={ dst:=o.dst,k:=.r .lnM,args:=_ }) rfl rfl rfl hA1 hA2];refine .inl ⟨.int .i64 ks.length,w,?_,G,hi.put1 (Ext.refl _ _ _) hi.base rfl o.dst (AqV hkd hnt hd) rfl (.one (.inl (.int _ _))) (fun _ _=>trivial)⟩
   have hget:(getObj b).run P w=.ok (.map es es.size) w:=by simp[getObj,Sem.run,hes]
   obtain⟨consts,hr⟩:=Ax3 (P:=P) (w:=w) (a:=a) ho hb;rw[hargs,htys] at hr;rw[hr];simp[builtin,ev,Builtin.len_,underlying,htu,hget,hsz,goInt]
  ·cases hs2
 |[.nilm],hs2=>
  simp only[semR] at hs2;cases hs2;obtain⟨x,y,hxs,rfl,hy,hp⟩:=args1 hc he;have ev:=(Aq5 hi hkd hy hp rfl).nilm_inv;have hargs:c.args=#[x]:=Array.toList_inj.1 hxs;rw[set_dst (ao:={ dst:=o.dst,k:=.r .lnM,args:=_ }) rfl rfl rfl hA1 hA2];refine .inl ⟨.int .i64 0,w,?_,G,hi.put1 (Ext.refl _ _ _) hi.base rfl o.dst (AqV hkd hnt hd) rfl (.one (.inl (.int _ _))) (fun _ _=>trivial)⟩
  obtain⟨consts,hr⟩:=Ax3 (P:=P) (w:=w) (a:=a) ho hb;rw[hargs,htys] at hr;rw[hr];simp[builtin,ev,Builtin.len_,underlying,htu,goInt]
end
end Go.Abs

namespace Go.Abs
open Go.RowKit
set_option linter.unusedVariables false
set_option linter.unusedSimpArgs false
section
variable{P:Program}{pur:FuncId→Bool}{call:Caller}{fi:FI}{cx:Cx}{G:Gh}{a:Act}{w:World}{A A':Frm}{σ σ':Sto}
theorem Av9{b:Nat}{es:Array MapEntry}{c:Nat}(h:w.heap[b]?=some (.map es c)):(getObj b).run P w=.ok (.map es c) w:=by simp[getObj,Sem.run,h]
theorem rep1_of{I:Imm}{bl:Bl}{c:Value}{v:PV}(hr:RepT I bl w c v)(hc:(v.flat||v.isRef)=true):Rep1 I bl w c v.Aq0:=by
 rw[Bool.or_eq_true] at hc;rcases hc with hc | hc
 ·exact .inl (hr.flat hc).Aq0
 ·have e:v.Aq0=v:=by cases v<;>first | rfl | cases hc
  rw[e];cases hr with
  |one h=>exact h
  |func=>cases hc
  |tuple=>cases hc
  |aggr=>cases hc
theorem lkR_ok(hi:Inv cx G a w A σ)(hkd:∀t,cx.kd t=fi.kind t)(hnt:cx.nt=fi.nt){o:Oper}{ok:Bool}{v:PV}{b:Bool}{rs:List (Option PV)}(h:lkR ok v b=some rs){c:Value}(hr:RepT G.I G.bl w c v)(hf:v.free=true)(hd:Aq7 fi o.dst=true)
  (hrun:(execOp a.eval o).run P w=.ok (.value (if ok then .tuple #[c,.bool b] else c)) w) (hA:∀p,rs=[some p]→A'=setO A o.dst p):Gives P cx o a w A' σ:=by
 unfold lkR at h;cases ok with
 |true=>
  rw[if_pos rfl] at h
  split at h
  case isFalse=>cases h
  rename_i hc;cases h;rw[hA _ rfl];refine .inl ⟨_,w,hrun,G,hi.put1 (Ext.refl _ _ _) hi.base rfl o.dst (AqV hkd hnt hd) rfl (.tuple rfl fun i p hp=>?_) (fun _ _=>trivial)⟩
  match i with
  |0=>
   simp at hp;subst hp;exact rep1_of hr hc
  |1=>simp at hp;subst hp;exact .inl (.bool b)
  |n+2=>simp at hp
 |false=>
  simp only[Bool.false_eq_true,if_false] at hrun;have h:(if v.free=true then some [some v.Aq0] else none)=some rs:=h
  rw[if_pos hf] at h;cases h;rw[hA _ rfl];exact .inl ⟨_,w,hrun,G,hi.put1 (Ext.refl _ _ _) hi.base rfl o.dst (AqV hkd hnt hd) (by rw[AqH];exact hf) hr.Aq0 (fun _ _=>AqA _)⟩
theorem sim_lkM(hi:Inv cx G a w A σ)(hkd:∀t,cx.kd t=fi.kind t)(hnt:cx.nt=fi.nt){o:Oper}{t kt et:TypeId}{x y:Operand}{ok:Bool}(ho:o.op=.lookup t x y ok)(ht:P.underlying t=some (.map kt et))
  {d:KD} (hkt:kdOf P kt=some d) {z:PV} (hz:zeroP P et=some z)
  {as:List AArg} (hc:Aq2 fi [x,y]=some as) (hd:Aq7 fi o.dst=true) (hrun:runA pur call { dst:=o.dst,k:=.r (.lkM z ok d),args:=as } A σ=some (A',σ')):Gives P cx o a w A' σ':=by
 obtain⟨vs,rs,he,hs,hA1,hA2⟩:=runK hrun;simp only[sem] at hs;obtain⟨rs',hs2,e⟩:=Option.map_eq_some_iff.1 hs;cases e;clear hs;obtain⟨zv,hzrun,hzrep,hzfree⟩:=zero_run hz G.I
 have hA:∀p,rs=[some p]→A'=setO A o.dst p:=fun p e=>by
  subst e;exact set_dst (ao:={ dst:=o.dst,k:=.r (.lkM z ok d),args:=as }) rfl rfl rfl hA1 hA2
 match vs,hs2 with
 |[.mref id,k],hs2=>
  simp only[semR] at hs2
  split at hs2
  ·rename_i d' z' ks ws x1 hm hk
   split at hs2
   case isFalse=>cases hs2
   rename_i hcc;obtain⟨rfl,hzs⟩:=hcc;obtain rfl:=zsame_eq hzs;obtain⟨x',x2,y1,y2,e',rfl,hy1,hy2,hp,hq⟩:=args2 hc he;cases e';obtain⟨hid,b,hb1,hmo⟩:=AZH hi hm;obtain⟨b',hb2,ev⟩:=(Aq5 hi hkd hy1 hp rfl).AkB;rw[hb1] at hb2;cases hb2;obtain⟨ek,hkx⟩:=AXM hk (Aq5 hi hkd hy2 hq (kx_free hk));obtain⟨_,_,⟨hlen,hall⟩,es,hes,hsz,hent⟩:=hmo;have hkeys:=MapOk.keys hsz hent;have hget:=Av9 (P:=P) hes;have hck:=Ak7 (P:=P) (w:=w) es.isEmpty hkt hkx;have hfd:=AvA (P:=P) (w:=w) hkt hkx hkeys hall;cases hj:findX x1 ks with
   |some j=>
    have hjk:=Av1 hj;have hjl:=(List.getElem?_eq_some_iff.1 hjk).1
    have hv:ws[j]?=some ws[j]:=List.getElem?_eq_getElem (by omega)
    have hje:es[j]?=some es[j]:=Array.getElem?_eq_getElem (by omega)
    have hlk:lookX x1 ks ws=some ws[j]:=by unfold lookX;rw[hj];exact hv
    rw[hlk] at hs2;have hrep:=(hent j _ hje).2.2 _ hv;refine lkR_ok hi hkd hnt hs2 hrep hrep.free hd ?_ hA
    have hfd2:(Instr.findKey kt x1.val es.toList).run P w=.ok (some (j,es[j].val)) w:=by
     rw[hfd,hj];simp[hje]
    simp[execOp,ho,Instr.lookup,underlying,ht,ev,ek,hget,hck,hfd2]
   |none=>
    have hlk:lookX x1 ks ws=none:=by unfold lookX;rw[hj];rfl
    rw[hlk] at hs2;refine lkR_ok hi hkd hnt hs2 (.one (.inl (hzrep w))) hzfree hd ?_ hA
    have hfd2:(Instr.findKey kt x1.val es.toList).run P w=.ok none w:=by
     rw[hfd,hj];rfl
    simp[execOp,ho,Instr.lookup,underlying,ht,ev,ek,hget,hck,hfd2,hzrun]
  ·cases hs2
 |[.nilm,k],hs2=>
  simp only[semR] at hs2
  split at hs2
  ·rename_i x1 hk;obtain⟨x',x2,y1,y2,e',rfl,hy1,hy2,hp,hq⟩:=args2 hc he;cases e';have ev:=(Aq5 hi hkd hy1 hp rfl).nilm_inv;obtain⟨ek,hkx⟩:=AXM hk (Aq5 hi hkd hy2 hq (kx_free hk));have hck:=Ak7 (P:=P) (w:=w) true hkt hkx;have hfd:=AvA (P:=P) (w:=w) hkt hkx (es:=[]) (ks:=[]) rfl rfl;refine lkR_ok hi hkd hnt hs2 (.one (.inl (hzrep w))) hzfree hd ?_ hA
   have hfd2:(Instr.findKey kt x1.val []).run P w=.ok none w:=by rw[hfd];rfl
   simp[execOp,ho,Instr.lookup,underlying,ht,ev,ek,hck,hfd2,hzrun]
  ·cases hs2
theorem ents_set{ks:List Kx}{vs:List PV}{es:Array MapEntry}(hsz:es.size=ks.length)(hlen:vs.length=ks.length)(hent:∀(j:Nat) (e:MapEntry),es[j]?=some e→e.born=j∧(ks[j]?).map Kx.val=some e.key∧∀p,vs[j]?=some p→RepT G.I G.bl w e.val p)
  {j:Nat} (hj:j<ks.length) {f:MapEntry→MapEntry} {v:PV} (hb:∀e,es[j]?=some e→(f e).born=e.born∧(f e).key=e.key∧RepT G.I G.bl w (f e).val v) :
  (vs.set j v).length=ks.length∧(es.modify j f).size=ks.length∧∀(i:Nat) (e:MapEntry),(es.modify j f)[i]?=some e→e.born=i∧(ks[i]?).map Kx.val=some e.key∧∀p,(vs.set j v)[i]?=some p→RepT G.I G.bl w e.val p:=by
 refine⟨by simp[hlen],by simp[hsz],fun i e he=>?_⟩
 rw[Array.getElem?_modify] at he
 split at he
 ·rename_i hji;subst hji;obtain⟨e0,h0,rfl⟩:=Option.map_eq_some_iff.1 he;obtain⟨q1,q2,q3⟩:=hb e0 h0;obtain⟨r1,r2,_⟩:=hent _ e0 h0;refine⟨q1.trans r1,by rw[q2];exact r2,fun p hp=>?_⟩
  rw[List.getElem?_set_self (by omega)] at hp
  cases hp;exact q3
 ·rename_i hji;obtain⟨r1,r2,r3⟩:=hent i e he;refine⟨r1,r2,fun p hp=>?_⟩
  rw[List.getElem?_set_ne hji] at hp
  exact r3 p hp
theorem ents_push{ks:List Kx}{vs:List PV}{es:Array MapEntry}(hsz:es.size=ks.length)(hlen:vs.length=ks.length)(hent:∀(j:Nat) (e:MapEntry),es[j]?=some e→e.born=j∧(ks[j]?).map Kx.val=some e.key∧∀p,vs[j]?=some p→RepT G.I G.bl w e.val p)
  (x:Kx) {v:PV} {c:Value} (hr:RepT G.I G.bl w c v) :
  (vs++[v]).length=(ks++[x]).length∧(es.push { key:=x.val,val:=c,born:=es.size }).size=(ks++[x]).length∧
   ∀(i:Nat) (e:MapEntry),(es.push { key:=x.val,val:=c,born:=es.size })[i]?=some e→e.born=i∧((ks++[x])[i]?).map Kx.val=some e.key∧∀p,(vs++[v])[i]?=some p→RepT G.I G.bl w e.val p:=by
 refine⟨by simp[hlen],by simp[hsz],fun i e he=>?_⟩
 rw[Array.getElem?_push] at he
 split at he
 ·rename_i hi;cases he;subst hi;refine⟨rfl,by rw[hsz,List.getElem?_append_right (Nat.le_refl _),Nat.sub_self];rfl,fun p hp=>?_⟩
  rw[hsz,←hlen,List.getElem?_append_right (Nat.le_refl _),Nat.sub_self] at hp
  cases hp;exact hr
 ·rename_i hi;have hil:=(Array.getElem?_eq_some_iff.1 he).1
  obtain⟨r1,r2,r3⟩:=hent i e he;refine⟨r1,by rw[List.getElem?_append_left (by omega)];exact r2,fun p hp=>?_⟩
  rw[List.getElem?_append_left (by omega)] at hp
  exact r3 p hp
theorem AjU{b:Nat}{es es':Array MapEntry}{c c':Nat}(h:w.heap[b]?=some (.map es c)):(setObj b (.map es' c')).run P w=.ok () (setB w b (.map es' c')):=MapKept.run_setObj_map _ h
theorem sim_upM(hi:Inv cx G a w A σ)(hkd:∀t,cx.kd t=fi.kind t){o:Oper}{t kt et:TypeId}{m x y:Operand}(ho:o.op=.mapUpdate t m x y∨o.op=.insert t m x y)(hod:o.dst=none)(ht:P.underlying t=some (.map kt et))
  {d:KD} (hkt:kdOf P kt=some d)
  {as:List AArg} (hc:Aq2 fi [m,x,y]=some as) (hrun:runA pur call { dst:=none,k:=.w (.upM d),args:=as } A σ=some (A',σ')):Gives P cx o a w A' σ':=by
 obtain⟨vs,rs,he,hs,hA1,hA2⟩:=runK hrun;simp only[sem] at hs;obtain⟨y1,zs,rfl,hy1,hz'⟩:=Aq3 hc;obtain⟨y2,zs,rfl,hy2,hz'⟩:=Aq3 hz';obtain⟨y3,zs,rfl,hy3,hz'⟩:=Aq3 hz';cases hz';obtain⟨p1,qs,rfl,hp1,hq⟩:=Aq1 he;obtain⟨p2,qs,rfl,hp2,hq⟩:=Aq1 hq;obtain⟨p3,qs,rfl,hp3,hq⟩:=Aq1 hq;cases hq;cases p1 with
 |mref id=>
  simp only[semW] at hs
  split at hs
  ·rename_i d' z' ks ws x1 hm hk
   split at hs
   case isFalse=>cases hs
   rename_i hcc;obtain⟨rfl,hvf⟩:=hcc;obtain⟨hid,b,hb1,hmo⟩:=AZH hi hm;obtain⟨b',hb2,ev⟩:=(Aq5 hi hkd hy1 hp1 rfl).AkB;rw[hb1] at hb2;cases hb2;obtain⟨ek,hkx⟩:=AXM hk (Aq5 hi hkd hy2 hp2 (kx_free hk));have hrv:=(Aq5 hi hkd hy3 hp3 hvf).Aq0;have hmo':=hmo;obtain⟨_,_,⟨hlen,hall⟩,es,hes,hsz,hent⟩:=hmo;have hkeys:=MapOk.keys hsz hent;have hget:=Av9 (P:=P) hes;have hck:=Ak7 (P:=P) (w:=w) false hkt hkx;have hfd:=AvA (P:=P) (w:=w) hkt hkx hkeys hall
   split at hs
   ·rename_i j hj;cases hs;rw[hA1 rfl];have hjk:=Av1 hj;have hjl:=(List.getElem?_eq_some_iff.1 hjk).1
    have hje:es[j]?=some es[j]:=Array.getElem?_eq_getElem (by omega)
    have hke:es[j].key=x1.val:=by
     have:=(hent j _ hje).2.1;rw[hjk] at this;exact(Option.some.inj this).symm
    have hall':=hall;obtain⟨g1,g2,g3⟩:=ents_set hsz hlen hent hjl (f:=fun e=>{ e with key:=x1.val,val:=a.eval y }) (v:=p3.Aq0) (fun e he=>⟨rfl,by rw[hje] at he;cases he;exact hke.symm,hrv⟩)
    have hst:=AwO hi z' hb1 hmo' hid hall' g1 g2 g3;refine .inr ⟨_,?_,⟨G,by rw[hod];exact hst⟩⟩
    have hkey:(Instr.keyThatStays (((es[j]?).map (·.key)).getD x1.val) x1.val).run P w=.ok x1.val w:=by
     rw[hje];simp only[Option.map_some,Option.getD_some,hke];exact AvT x1
    have hfd2:(Instr.findKey kt x1.val es.toList).run P w=.ok (some (j,es[j].val)) w:=by
     rw[hfd,hj];simp[hje]
    have hsm:=AjU (P:=P) (es':=es.modify j fun e=>{ e with key:=x1.val,val:=a.eval y }) (c':=es.size) hes
    have e9:(es.modify j fun e=>{ e with key:=x1.val,val:=a.eval y }).size=es.size:=by simp
    rcases ho with ho | ho
    ·simp only[execOp,ho,ev,ek,Instr.mapUpdate,Sem.run_bind,run_underlying ht,Result.andThen_ok,hget,hck,hfd2,hkey,hsm,e9];rfl
    ·simp only[execOp,ho,ev,ek,Instr.mapUpdate,Sem.run_bind,run_underlying ht,Result.andThen_ok,hget,hck,hfd2,hkey,hsm,e9];rfl
   ·rename_i hj
    split at hs
    case isFalse=>cases hs
    cases hs;rw[hA1 rfl];have hall':(ks++[x1]).all (isKx d')=true:=by simp[List.all_append,hall,hkx]
    obtain⟨g1,g2,g3⟩:=ents_push hsz hlen hent x1 hrv;have hst:=AwO hi z' hb1 hmo' hid hall' g1 g2 g3;refine .inr ⟨_,?_,⟨G,by rw[hod];exact hst⟩⟩
    have hfd2:(Instr.findKey kt x1.val es.toList).run P w=.ok none w:=by rw[hfd,hj];rfl
    have hsm:=AjU (P:=P) (es':=es.push { key:=x1.val,val:=a.eval y,born:=es.size }) (c':=es.size+1) hes;have e9:(es.push { key:=x1.val,val:=a.eval y,born:=es.size }).size=es.size+1:=by simp
    rcases ho with ho | ho
    ·simp only[execOp,ho,ev,ek,Instr.mapUpdate,Sem.run_bind,run_underlying ht,Result.andThen_ok,hget,hck,hfd2,hsm,e9];rfl
    ·simp only[execOp,ho,ev,ek,Instr.mapUpdate,Sem.run_bind,run_underlying ht,Result.andThen_ok,hget,hck,hfd2,hsm,e9];rfl
  ·cases hs
 |_=>simp[semW] at hs
theorem sim_enM(hi:Inv cx G a w A σ)(hkd:∀t,cx.kd t=fi.kind t)(hnt:cx.nt=fi.nt){o:Oper}{t kt et:TypeId}{m x:Operand}(ho:o.op=.mapEntry t m x)(ht:P.underlying t=some (.map kt et))
  {d:KD} (hkt:kdOf P kt=some d) {z:PV} (hz:zeroP P et=some z)
  {as:List AArg} (hc:Aq2 fi [m,x]=some as) (hd:Aq7 fi o.dst=true) (hrun:runA pur call { dst:=o.dst,k:=.w (.enM z d),args:=as } A σ=some (A',σ')):Gives P cx o a w A' σ':=by
 obtain⟨vs,rs,he,hs,hA1,hA2⟩:=runK hrun;simp only[sem] at hs;obtain⟨zv,hzrun,hzrep,hzfree⟩:=zero_run hz G.I
 have hA:∀p,rs=[some p]→A'=setO A o.dst p:=fun p e=>by
  subst e;exact set_dst (ao:={ dst:=o.dst,k:=.w (.enM z d),args:=as }) rfl rfl rfl hA1 hA2
 match vs,hs with
 |[.mref id,k],hs=>
  simp only[semW] at hs
  split at hs
  ·rename_i d' z' ks ws x1 hm hk
   split at hs
   case isFalse=>cases hs
   rename_i hcc;obtain⟨rfl,hzs,hzf⟩:=hcc;obtain rfl:=zsame_eq hzs;obtain⟨x',x2,y1,y2,e',rfl,hy1,hy2,hp1,hp2⟩:=args2 hc he;cases e';obtain⟨hid,b,hb1,hmo⟩:=AZH hi hm;obtain⟨b',hb2,ev⟩:=(Aq5 hi hkd hy1 hp1 rfl).AkB;rw[hb1] at hb2;cases hb2;obtain⟨ek,hkx⟩:=AXM hk (Aq5 hi hkd hy2 hp2 (kx_free hk));have hmo':=hmo;obtain⟨_,_,⟨hlen,hall⟩,es,hes,hsz,hent⟩:=hmo;have hkeys:=MapOk.keys hsz hent;have hget:=Av9 (P:=P) hes;have hck:=Ak7 (P:=P) (w:=w) false hkt hkx;have hfd:=AvA (P:=P) (w:=w) hkt hkx hkeys hall
   split at hs
   ·rename_i j hj
    split at hs
    ·rename_i v hv
     split at hs
     case isFalse=>cases hs
     rename_i hvc;cases hs;rw[hA _ rfl];have hjk:=Av1 hj;have hjl:=(List.getElem?_eq_some_iff.1 hjk).1
     have hje:es[j]?=some es[j]:=Array.getElem?_eq_getElem (by omega)
     obtain⟨hbn,hke',hrv'⟩:=hent j _ hje
     have hke:es[j].key=x1.val:=by
      rw[hjk] at hke';exact(Option.some.inj hke').symm
     have hrv:=hrv' v hv;have hall':=hall;obtain⟨g1,g2,g3⟩:=ents_set hsz hlen hent hjl (f:=fun e=>{ e with key:=x1.val }) (v:=v) (fun e he=>⟨rfl,by rw[hje] at he;cases he;exact hke.symm,by rw[hje] at he;cases he;exact hrv⟩)
     have hst:=AwO hi z hb1 hmo' hid hall' g1 g2 g3
     have e8:ws.set j v=ws:=by
      refine List.ext_getElem? fun i=>?_
      by_cases hij:j=i
      ·subst hij;rw[List.getElem?_set_self (List.getElem?_eq_some_iff.1 hv).1,hv]
      ·rw[List.getElem?_set_ne hij]
     have e7:σ.set id [.mapo d' z ks ws]=σ:=by
      have hσ:σ[id]?=some [.mapo d' z ks ws]:=by
       unfold mapOf at hm
       split at hm
       ·cases hm;assumption
       ·cases hm
      refine List.ext_getElem? fun i=>?_
      by_cases hij:id=i
      ·subst hij;rw[List.getElem?_set_self hid,hσ]
      ·rw[List.getElem?_set_ne hij]
     rw[e8,e7] at hst;have hob:=setB_one w b (.map (es.modify j fun e=>{ e with key:=x1.val }) (es.modify j fun e=>{ e with key:=x1.val }).size)
     have hext:=AZV (X:=fun tg=>tg=.obj id none) hob hmo'.1 hmo'.2.1 rfl
     refine .inl ⟨.tuple #[es[j].val,goInt (j:Nat)],_,?_,G,hst.put1 (Ext.refl _ _ _) hst.base rfl o.dst (AqV hkd hnt hd) rfl (.tuple rfl fun i p hp=>?_) (fun _ _=>trivial)⟩
     ·have hkey:(Instr.keyThatStays (((es[j]?).map (·.key)).getD x1.val) x1.val).run P w=.ok x1.val w:=by
       rw[hje];simp only[Option.map_some,Option.getD_some,hke];exact AvT x1
      have hfd2:(Instr.findKey kt x1.val es.toList).run P w=.ok (some (j,es[j].val)) w:=by
       rw[hfd,hj];simp[hje]
      have hsm:=AjU (P:=P) (es':=es.modify j fun e=>{ e with key:=x1.val }) (c':=es.size) hes
      have e9:(es.modify j fun e=>{ e with key:=x1.val }).size=es.size:=by simp
      simp only[execOp,ho,ev,ek,Instr.mapEntry,Sem.run_bind,run_underlying ht,Result.andThen_ok,hget,hck,hfd2,hje,Option.map_some,Option.getD_some,hke,AvT,hsm,e9,Sem.run_pure,hbn]
     ·match i with
      |0=>
       simp at hp;subst hp;exact(rep1_of hrv hvc).mono hext.I hext.same hext.bl
      |1=>simp at hp;subst hp;exact .inl (.int _ _)
      |n+2=>simp at hp
    ·cases hs
   ·rename_i hj
    split at hs
    case isFalse=>cases hs
    cases hs;rw[hA _ rfl];have hall':(ks++[x1]).all (isKx d')=true:=by simp[List.all_append,hall,hkx]
    obtain⟨g1,g2,g3⟩:=ents_push hsz hlen hent x1 (RepT.one (bl:=G.bl) (.inl (hzrep w)));have hst:=AwO hi z hb1 hmo' hid hall' g1 g2 g3;have hfd2:(Instr.findKey kt x1.val es.toList).run P w=.ok none w:=by rw[hfd,hj];rfl
    have hsm:=AjU (P:=P) (es':=es.push { key:=x1.val,val:=zv,born:=es.size }) (c':=es.size+1) hes;have e9:(es.push { key:=x1.val,val:=zv,born:=es.size }).size=es.size+1:=by simp
    refine .inl ⟨.tuple #[zv,goInt (es.size:Nat)],_,?_,G,hst.put1 (Ext.refl _ _ _) hst.base rfl o.dst (AqV hkd hnt hd) rfl (.tuple rfl fun i p hp=>?_) (fun _ _=>trivial)⟩
    ·simp only[execOp,ho,ev,ek,Instr.mapEntry,Sem.run_bind,run_underlying ht,Result.andThen_ok,hget,hck,hfd2,hzrun,hsm,e9,Sem.run_pure]
    ·match i with
     |0=>simp at hp;subst hp;exact .inl (hzrep _).Aq0
     |1=>simp at hp;subst hp;rw[hsz];exact .inl (.int _ _)
     |n+2=>simp at hp
  ·cases hs
theorem sim_esM(hi:Inv cx G a w A σ)(hkd:∀t,cx.kd t=fi.kind t){o:Oper}{t:TypeId}{m x y:Operand}(ho:o.op=.entryStore t m x y)(hod:o.dst=none)
  {as:List AArg} (hc:Aq2 fi [m,x,y]=some as) (hrun:runA pur call { dst:=none,k:=.w .esM,args:=as } A σ=some (A',σ')):Gives P cx o a w A' σ':=by
 obtain⟨vs,rs,he,hs,hA1,hA2⟩:=runK hrun;simp only[sem] at hs;obtain⟨y1,zs,rfl,hy1,hz'⟩:=Aq3 hc;obtain⟨y2,zs,rfl,hy2,hz'⟩:=Aq3 hz';obtain⟨y3,zs,rfl,hy3,hz'⟩:=Aq3 hz';cases hz';obtain⟨p1,qs,rfl,hp1,hq⟩:=Aq1 he;obtain⟨p2,qs,rfl,hp2,hq⟩:=Aq1 hq;obtain⟨p3,qs,rfl,hp3,hq⟩:=Aq1 hq;cases hq;cases p1 with
 |mref id=>
  cases p2 with
  |int k i=>
   simp only[semW] at hs
   split at hs
   ·rename_i d' z' ks ws hm
    split at hs
    case isFalse=>cases hs
    rename_i hcc;obtain⟨h0,hlt,hvf⟩:=hcc;cases hs;rw[hA1 rfl];obtain⟨hid,b,hb1,hmo⟩:=AZH hi hm;obtain⟨b',hb2,ev⟩:=(Aq5 hi hkd hy1 hp1 rfl).AkB;rw[hb1] at hb2;cases hb2;have ei:=(Aq5 hi hkd hy2 hp2 rfl).AqF;have hrv:=(Aq5 hi hkd hy3 hp3 hvf).Aq0;have hmo':=hmo;obtain⟨_,_,⟨hlen,hall⟩,es,hes,hsz,hent⟩:=hmo;have hall':=hall;have hget:=Av9 (P:=P) hes;have hjl:i.toNat<ks.length:=by omega
    obtain⟨g1,g2,g3⟩:=ents_set hsz hlen hent hjl (f:=fun e=>{ e with val:=a.eval y }) (v:=p3.Aq0) (fun e he=>⟨rfl,rfl,hrv⟩)
    have hst:=AwO hi z' hb1 hmo' hid hall' g1 g2 g3;refine .inr ⟨_,?_,⟨G,by rw[hod];exact hst⟩⟩
    have hsm:=AjU (P:=P) (es':=es.modify i.toNat fun e=>{ e with val:=a.eval y }) (c':=es.size) hes
    have e9:(es.modify i.toNat fun e=>{ e with val:=a.eval y }).size=es.size:=by simp
    have hfi:es.findIdx? (fun e=>(e.born:Int)==i)=some i.toNat:=by
     rw[Array.findIdx?_eq_some_iff_getElem]
     refine⟨by omega,?_,fun j hj=>?_⟩
     ·have:=(hent i.toNat _ (Array.getElem?_eq_getElem (by omega))).1
      simp only[this,beq_iff_eq];omega
     ·have:=(hent j _ (Array.getElem?_eq_getElem (by omega))).1
      simp only[this,beq_iff_eq];omega
    simp only[execOp,ho,ev,ei,Instr.entryStore,Sem.run_bind,Result.andThen_ok,hget,asInt,asIntOf,Sem.run_pure,hfi,hsm,e9]
   ·cases hs
  |_=>simp[semW] at hs
 |_=>simp[semW] at hs
end
end Go.Abs

namespace Go.Abs
open Go.RowKit
structure CxOk(cx:Cx)(fi:FI):Prop where
 kd:∀t,cx.kd t=fi.kind t
 nt:cx.nt=fi.nt
 al:∀t,cx.al t=fi.alias t
section
variable{P:Program}{pur:FuncId→Bool}{call:Caller}{fi:FI}{cx:Cx}{G:Gh}{a:Act}{w:World}{A A':Frm}{σ σ':Sto}{rg:RG}{o:Oper}{ao:AOp}
theorem mk0{d:Option Nat}{k:AK}{args:Option (List AArg)}(h:mk fi d k args=some ao):∃as,args=some as∧ao={ dst:=d,k,args:=as }∧Aq7 fi d=true:=by
 obtain⟨as,h1,h2,h3,_⟩:=mk_some h;exact⟨as,h1,h2,h3⟩
theorem mk1{d s:Nat}{k:AK}{args:Option (List AArg)}(h:mk fi (some d) k args [s]=some ao):∃as,args=some as∧ao={ dst:=some d,k,args:=as,ex:=[s] }∧AqK fi d=true∧AqK fi s=true∧d≠s:=by
 obtain⟨as,h1,h2,h3,h4,h5⟩:=mk_some h;refine⟨as,h1,h2,h3,by simpa using h4,?_⟩
 simp at h5;exact h5
theorem op_move(hi:Inv cx G a w A σ)(hx:CxOk cx fi){x:Operand}(hop:o.op=.move x)(hc:AqE P pur fi rg o=some ao)(hrun:runA pur call ao A σ=some (A',σ')):Gives P cx o a w A' σ':=by
 simp only[AqE,hop] at hc
 split at hc
 ·obtain⟨as,h1,rfl,h3⟩:=mk0 hc;exact sim_frz hi hx.kd hx.nt hop h1 h3 hrun
 split at hc
 ·rename_i s t hd
  split at hc
  ·rename_i keys hk
   split at hc
   ·rename_i hcc;cases hc;rw[hd] at hrun;exact sim_mvb hi hx.kd hx.nt hop hd (by rw[hx.kd];exact hk) hcc.1 hrun
   ·cases hc
  ·split at hc
   ·rw[hd] at hc;obtain⟨as,h1,rfl,h3,h4,_⟩:=mk1 hc;exact sim_mvo hi hx.kd hx.nt (.inl hop) hd h1 h3 h4 hrun
   ·obtain⟨as,h1,rfl,h3⟩:=mk0 hc;exact sim_mv hi hx.kd hx.nt (.inl hop) h1 h3 hrun
 ·obtain⟨as,h1,rfl,h3⟩:=mk0 hc;exact sim_mv hi hx.kd hx.nt (.inl hop) h1 h3 hrun
theorem op_assign(hi:Inv cx G a w A σ)(hx:CxOk cx fi){x:Operand}(hop:o.op=.assign x)(hc:AqE P pur fi rg o=some ao)(hrun:runA pur call ao A σ=some (A',σ')):Gives P cx o a w A' σ':=by
 simp only[AqE,hop] at hc
 split at hc
 ·rename_i s
  split at hc
  ·cases hd:o.dst with
   |none=>
    rw[hd] at hc;obtain⟨as,h1,rfl,h3,h4,h5⟩:=mk_some hc;obtain⟨vs,rs,he,hs,rfl,hA⟩:=runX rfl hrun;obtain⟨y,zs,rfl,hy,hz⟩:=Aq3 h1;cases hz;obtain⟨p,qs,rfl,hp,hq⟩:=Aq1 he;cases hq;simp only[semP] at hs
    split at hs
    ·cases hs;unfold runA at hrun;dsimp only at he hrun;rw[he] at hrun;simp only[sem,semP] at hrun
     simp_all
    ·cases hs
   |some d=>
    rw[hd] at hc;obtain⟨as,h1,rfl,h3,h4,_⟩:=mk1 hc;exact sim_mvo hi hx.kd hx.nt (.inr hop) hd h1 h3 h4 hrun
  ·obtain⟨as,h1,rfl,h3⟩:=mk0 hc;exact sim_mv hi hx.kd hx.nt (.inr hop) h1 h3 hrun
 ·obtain⟨as,h1,rfl,h3⟩:=mk0 hc;exact sim_mv hi hx.kd hx.nt (.inr hop) h1 h3 hrun
theorem op_box(hi:Inv cx G a w A σ)(hx:CxOk cx fi){t:TypeId}{x:Operand}(hop:o.op=.box t x)(hc:AqE P pur fi rg o=some ao)(hrun:runA pur call ao A σ=some (A',σ')):Gives P cx o a w A' σ':=by
 simp only[AqE,hop] at hc
 split at hc
 ·rename_i s nag hd hcell
  split at hc
  ·cases hc
  ·rename_i hlt;have hlt':s<cx.nt:=by rw[hx.nt];exact Nat.lt_of_not_le hlt
   rw[hd] at hc
   split at hc
   ·rename_i hk;obtain⟨as,h1,rfl⟩:=Option.map_eq_some_iff.1 hc;exact sim_bxl hi hx.kd hx.al hop hd hlt' (by rw[hx.kd];exact hk) h1 hrun
   ·rename_i hk;obtain⟨as,h1,rfl⟩:=Option.map_eq_some_iff.1 hc;refine sim_bx hi hx.kd hop (fun d hd'=>?_) h1 (by rw[hd];exact hrun)
    rw[hd] at hd';cases hd';exact⟨hlt',by rw[hx.kd,hk];rfl⟩
   ·rename_i hk;obtain⟨as,h1,rfl⟩:=Option.map_eq_some_iff.1 hc;exact sim_bxO hi hx.kd hop hd hlt' (by rw[hx.kd,hk];rfl) h1 hrun
   ·cases hc
 ·cases hc
theorem op_alloc(hi:Inv cx G a w A σ)(hx:CxOk cx fi){t:TypeId}(hop:o.op=.alloc t)(hc:AqE P pur fi rg o=some ao)(hrun:runA pur call ao A σ=some (A',σ')):Gives P cx o a w A' σ':=by
 simp only[AqE,hop] at hc
 split at hc
 ·rename_i s n ag z hd hcell hz
  split at hc
  ·cases hc
  ·rename_i hlt;have hlt':s<cx.nt:=by rw[hx.nt];exact Nat.lt_of_not_le hlt
   rw[hd] at hc
   split at hc
   ·rename_i hk;cases hc;exact sim_zl hi hx.al hop hd hlt' (by rw[hx.kd];exact hk) hz hrun
   ·rename_i hk
    split at hc
    ·rename_i hzn;cases hc;exact sim_zi hi hop hd hlt' (by rw[hx.kd,hk];rfl) hz hzn hrun
    ·cases hc
   ·rename_i hk
    split at hc
    ·rename_i bt be hbt
     split at hc
     ·rename_i hbe
      split at hc
      ·cases hc;exact sim_alB hi hop hd hlt' (by rw[hx.kd,hk];rfl) hz hrun
      ·cases hc
     ·cases hc;exact sim_alO hi hop hd hlt' (by rw[hx.kd,hk];rfl) hz hrun
    ·cases hc;exact sim_alO hi hop hd hlt' (by rw[hx.kd,hk];rfl) hz hrun
   ·cases hc
 ·cases hc
theorem op_build(hi:Inv cx G a w A σ)(hx:CxOk cx fi){t:TypeId}{ps:Array (Nat×Operand)}(hop:o.op=.build t ps)(hc:AqE P pur fi rg o=some ao)(hrun:runA pur call ao A σ=some (A',σ')):Gives P cx o a w A' σ':=by
 simp only[AqE,hop] at hc
 split at hc
 ·rename_i fs z hs hz
  split at hc
  ·rename_i places hpl
   split at hc
   ·rename_i pl hpp;obtain⟨as,h1,rfl,h3⟩:=mk0 hc;exact sim_build hi hx.kd hx.nt hop hs hz hpl hpp h1 h3 hrun
   ·cases hc
  ·cases hc
 ·cases hc
theorem op_buildSlice(hi:Inv cx G a w A σ)(hx:CxOk cx fi){t:TypeId}{n:Nat}{ps:Array (Nat×Operand)}(hop:o.op=.buildSlice t n ps)(hc:AqE P pur fi rg o=some ao)(hrun:runA pur call ao A σ=some (A',σ')):Gives P cx o a w A' σ':=by
 simp only[AqE,hop] at hc
 split at hc
 ·split at hc
  ·rename_i e hs
   split at hc
   ·rename_i ag hcell
    split at hc
    ·rename_i hcc;obtain⟨rfl,rfl⟩:=hcc;obtain⟨as,h1,rfl,h3⟩:=mk0 hc;cases h1;exact sim_bse hi hx.kd hx.nt hop hs hcell h3 hrun
    ·cases hc
   ·cases hc
  ·cases hc
 split at hc
 ·rename_i e hs
  split at hc
  ·rename_i size ag hcell
   split at hc
   ·rename_i hcc;simp only[Bool.and_eq_true,beq_iff_eq,decide_eq_true_eq] at hcc;obtain⟨⟨⟨⟨⟨c1,c2⟩,c3⟩,c4⟩,c5⟩,c6⟩:=hcc;obtain⟨as,h1,rfl,h3⟩:=mk0 hc;exact sim_bsl hi hx.kd hx.nt hop hs hcell c1 c2 c3 c4 c5 c6 h1 h3 hrun
   ·cases hc
  ·cases hc
 ·cases hc
theorem AJ1{s:Nat}(hlt:¬fi.nt≤s)(hk:(fi.kind s).val=true):Aq2 fi [.tmp s]=some [.slot s]:=by
 have hlt':s<fi.nt:=by omega
 simp only[Aq2,AxQ];cases h:fi.kind s<;>rw[h] at hk<;>first | (simp[SK.val] at hk;done) | simp[hlt']
theorem op_load(hi:Inv cx G a w A σ)(hx:CxOk cx fi){t:TypeId}{x:Operand}(hop:o.op=.load t x)(hc:AqE P pur fi rg o=some ao)(hrun:runA pur call ao A σ=some (A',σ')):Gives P cx o a w A' σ':=by
 cases hd:o.dst with
 |none=>
  simp only[AqE,hop,hd,Bool.and_false,Bool.false_eq_true,if_false] at hc
  split at hc
  ·rename_i n ag hcell
   split at hc
   ·rename_i s
    split at hc
    ·cases hc
    ·rename_i hlt
     split at hc
     ·rename_i hk
      split at hc
      ·simp at hc
      obtain⟨as,h1,rfl,h3⟩:=mk0 hc;cases h1;exact sim_ldl hi hx.kd hx.nt hop (by rw[hx.kd];exact hk) hcell (by rw[hd];exact h3) (by rw[hd];exact hrun)
     ·split at hc
      ·rename_i b hal
       split at hc
       ·rename_i hkb;obtain⟨as,h1,rfl,h3⟩:=mk0 hc;cases h1;exact sim_ldf hi hx.kd hx.nt hop hcell (by rw[hd];exact h3) (by rw[hd];exact hrun)
       ·cases hc
      ·split at hc
       ·obtain⟨as,h1,rfl,h3⟩:=mk0 hc;exact sim_ldp hi hx.kd hx.nt hop hcell h1 (by rw[hd];exact h3) (by rw[hd];exact hrun)
       ·split at hc
        ·cases hc
        rename_i hn0;obtain⟨as,h1,rfl,h3⟩:=mk0 hc;exact sim_ld hi hx.kd hx.nt hop hcell hn0 h1 (by rw[hd];exact h3) (by rw[hd];exact hrun)
   ·cases hc
  ·cases hc
 |some u=>
  simp only[AqE,hop,hd] at hc
  split at hc
  ·rename_i n ag hcell
   split at hc
   ·rename_i s
    split at hc
    ·cases hc
    ·rename_i hlt
     split at hc
     ·rename_i hk
      split at hc
      ·split at hc
       ·rename_i hcc;simp only[Bool.and_eq_true] at hcc;cases hc;obtain⟨⟨h1,_⟩,rfl⟩:=hcc;exact sim_ldz hi hx.kd hx.nt hop hd (by rw[hx.kd];exact hk) hcell h1 hrun
       ·cases hc
      obtain⟨as,h1,rfl,h3⟩:=mk0 hc;cases h1;exact sim_ldl hi hx.kd hx.nt hop (by rw[hx.kd];exact hk) hcell (by rw[hd];exact h3) (by rw[hd];exact hrun)
     ·split at hc
      ·rename_i b hal
       split at hc
       ·rename_i hkb
        split at hc
        ·rename_i hcc;simp only[Bool.and_eq_true,Bool.not_eq_true'] at hcc
         split at hc
         ·rename_i hpd;cases hc;obtain⟨rfl,_⟩:=hcc;exact sim_ldfo hi hx.kd hx.nt hop hd hcell hpd hrun
         ·cases hc
        ·obtain⟨as,h1,rfl,h3⟩:=mk0 hc;cases h1;exact sim_ldf hi hx.kd hx.nt hop hcell (by rw[hd];exact h3) (by rw[hd];exact hrun)
       ·cases hc
      ·split at hc
       ·rename_i hcc;obtain⟨as,h1,rfl,h3⟩:=mk0 hc;simp only[Bool.and_eq_true,Bool.not_eq_true'] at hcc;obtain⟨rfl,_⟩:=hcc;exact sim_ldo hi hx.kd hx.nt hop hd hcell h3 h1 hrun
       ·split at hc
        ·obtain⟨as,h1,rfl,h3⟩:=mk0 hc;exact sim_ldp hi hx.kd hx.nt hop hcell h1 (by rw[hd];exact h3) (by rw[hd];exact hrun)
        ·split at hc
         ·cases hc
         rename_i hn0;obtain⟨as,h1,rfl,h3⟩:=mk0 hc;exact sim_ld hi hx.kd hx.nt hop hcell hn0 h1 (by rw[hd];exact h3) (by rw[hd];exact hrun)
   ·cases hc
  ·cases hc
theorem op_store(hi:Inv cx G a w A σ)(hx:CxOk cx fi){t:TypeId}{y x:Operand}(hop:o.op=.store t y x)(hc:AqE P pur fi rg o=some ao)(hrun:runA pur call ao A σ=some (A',σ')):Gives P cx o a w A' σ':=by
 simp only[AqE,hop] at hc
 split at hc
 ·rename_i n ag s hcell hd
  split at hc
  ·cases hc
  ·rename_i hlt
   split at hc
   ·rename_i hk;obtain⟨as,h1,rfl⟩:=Option.map_eq_some_iff.1 hc;exact sim_stl hi hx.kd hop hd (by rw[hx.kd];exact hk) hcell h1 hrun
   ·rename_i hk;obtain⟨as,h1,rfl⟩:=Option.map_eq_some_iff.1 hc;exact sim_sti hi hx.kd hop hd (by rw[hx.kd,hk];rfl) hcell h1 hrun
   ·rename_i hnb _;have hnb':cx.kd s≠.box:=by rw[hx.kd];exact hnb
    split at hc
    ·rename_i b hal
     split at hc
     ·rename_i hkb
      split at hc
      ·rename_i u
       split at hc
       ·rename_i hcc;simp only[Bool.and_eq_true,beq_iff_eq] at hcc;cases hc;exact sim_stfo hi hx.kd hx.nt hop hd hcell hcc.2 hcc.1.2 hrun
       ·obtain⟨as,h1,rfl⟩:=Option.map_eq_some_iff.1 hc;exact sim_stf hi hx.kd hop hd hcell h1 hrun
      ·obtain⟨as,h1,rfl⟩:=Option.map_eq_some_iff.1 hc;exact sim_stf hi hx.kd hop hd hcell h1 hrun
     ·cases hc
    ·split at hc
     ·rename_i u
      split at hc
      ·rename_i hcc;simp only[Bool.and_eq_true,beq_iff_eq] at hcc;cases hc;exact sim_sto hi hx.kd hx.nt hop hd hnb' hcell hcc.2 hcc.1.2 hrun
      ·obtain⟨as,h1,rfl⟩:=Option.map_eq_some_iff.1 hc;exact sim_st hi hx.kd hop hd hnb' hcell h1 hrun
     ·obtain⟨as,h1,rfl⟩:=Option.map_eq_some_iff.1 hc;exact sim_st hi hx.kd hop hd hnb' hcell h1 hrun
 ·cases hc
theorem op_binOp(hi:Inv cx G a w A σ)(hx:CxOk cx fi){op:BinOp}{t yt:TypeId}{x y:Operand}(hop:o.op=.binOp op t x y yt)(hc:AqE P pur fi rg o=some ao)(hrun:runA pur call ao A σ=some (A',σ')):Gives P cx o a w A' σ':=by
 simp only[AqE,hop] at hc
 split at hc
 ·obtain⟨as,h1,rfl,h3⟩:=mk0 hc;exact sim_bin hi hx.kd hx.nt hop (by simp) (by simp) h1 h3 hrun
 ·obtain⟨as,h1,rfl,h3⟩:=mk0 hc;exact sim_bin hi hx.kd hx.nt hop (by simp) (by simp) h1 h3 hrun
 ·rename_i ht;obtain⟨as,h1,rfl,h3⟩:=mk0 hc;exact sim_bin hi hx.kd hx.nt hop (fun _=>ht) (by simp) h1 h3 hrun
 ·rename_i ps rs v ht;obtain⟨as,h1,rfl,h3⟩:=mk0 hc;exact sim_bin hi hx.kd hx.nt hop (by simp) (fun _=>⟨ps,rs,v,ht⟩) h1 h3 hrun
 ·rename_i e ht
  split at hc
  ·obtain⟨as,h1,rfl,h3⟩:=mk0 hc;exact sim_snil hi hx.kd hx.nt (ne:=false) rfl hop ht h1 h3 hrun
  ·obtain⟨as,h1,rfl,h3⟩:=mk0 hc;exact sim_snil hi hx.kd hx.nt (ne:=true) rfl hop ht h1 h3 hrun
  ·obtain⟨as,h1,rfl,h3⟩:=mk0 hc;obtain⟨vs,rs,_,hs,_,_⟩:=runX rfl hrun;cases vs<;>simp[semP] at hs
 ·split at hc
  ·rename_i ts hts
   split at hc
   ·obtain⟨as,h1,rfl,h3⟩:=mk0 hc;exact sim_aeq hi hx.kd hx.nt (ne:=false) rfl hop hts h1 h3 hrun
   ·obtain⟨as,h1,rfl,h3⟩:=mk0 hc;exact sim_aeq hi hx.kd hx.nt (ne:=true) rfl hop hts h1 h3 hrun
   ·obtain⟨as,h1,rfl,h3⟩:=mk0 hc;obtain⟨vs,rs,_,hs,_,_⟩:=runX rfl hrun;cases vs<;>simp[semP] at hs
  ·obtain⟨as,h1,rfl,h3⟩:=mk0 hc;obtain⟨vs,rs,_,hs,_,_⟩:=runX rfl hrun;cases vs<;>simp[semP] at hs
theorem op_convert(hi:Inv cx G a w A σ)(hx:CxOk cx fi){s t:TypeId}{x:Operand}(hop:o.op=.convert s t x)(hc:AqE P pur fi rg o=some ao)(hrun:runA pur call ao A σ=some (A',σ')):Gives P cx o a w A' σ':=by
 simp only[AqE,hop] at hc
 split at hc
 ·rename_i hs ht;obtain⟨as,h1,rfl,h3⟩:=mk0 hc;exact sim_cvt hi hx.kd hx.nt hop hs ht h1 h3 hrun
 ·rename_i e hs ht
  split at hc
  ·rename_i he hcell;obtain⟨as,h1,rfl,h3⟩:=mk0 hc;exact sim_cvb hi hx.kd hx.nt hop hs ht he h1 h3 hrun
  ·cases hc
 ·rename_i e' e hs ht
  split at hc
  ·rename_i u d he hd
   split at hc
   ·rename_i hst;rw[hd] at hc;obtain⟨as,h1,rfl,h3,h4,h5⟩:=mk1 hc;exact sim_cvi hi hx.kd hx.nt hop hst hd hs ht he h1 h3 h4 h5 hrun
   ·cases hc
  ·cases hc
 ·cases hc
theorem op_insert(hi:Inv cx G a w A σ)(hx:CxOk cx fi){t:TypeId}{m:Operand}{k x:Operand}(hop:o.op=.insert t m k x)(hc:AqE P pur fi rg o=some ao)(hrun:runA pur call ao A σ=some (A',σ')):Gives P cx o a w A' σ':=by
 cases m with
 |tmp m=>
  simp only[AqE,hop] at hc
  split at hc
  ·rename_i kt et keys s ht hkm hps hd
   split at hc
   ·rename_i ik m' key hkt hks
    split at hc
    ·rename_i hcc;obtain⟨c1,rfl,c3,c4⟩:=hcc;obtain⟨as,h1,rfl⟩:=Option.map_eq_some_iff.1 hc;exact sim_ins hi hx.kd hop hd ht hkt (.inl ⟨ik,rfl⟩) c1 (by rw[hx.kd];exact hkm) (by rw[hx.kd];exact hks) h1 hrun
    ·cases hc
   ·rename_i m' key hkt hks
    split at hc
    ·rename_i hcc;obtain⟨c1,rfl,c3,c4⟩:=hcc;obtain⟨as,h1,rfl⟩:=Option.map_eq_some_iff.1 hc;exact sim_ins hi hx.kd hop hd ht hkt (.inr rfl) c1 (by rw[hx.kd];exact hkm) (by rw[hx.kd];exact hks) h1 hrun
    ·cases hc
   ·cases hc
  ·rename_i kt et ht hkm hd
   split at hc
   ·rename_i kd hkd;obtain⟨as,h1,rfl,h3⟩:=mk0 hc;rw[hd] at hrun;exact sim_upM hi hx.kd (.inr hop) hd ht hkd h1 hrun
   ·cases hc
  ·cases hc
 |_=>simp[AqE,hop] at hc
theorem op_makeMap(hi:Inv cx G a w A σ)(hx:CxOk cx fi){t:TypeId}{r:Option Operand}(hop:o.op=.makeMap t r)(hc:AqE P pur fi rg o=some ao)(hrun:runA pur call ao A σ=some (A',σ')):Gives P cx o a w A' σ':=by
 cases r with
 |some r=>simp[AqE,hop] at hc
 |none=>
  simp only[AqE,hop] at hc
  split at hc
  ·rename_i s kt et hd ht
   split at hc
   ·split at hc
    ·rename_i kd z hkd hz;obtain⟨as,h1,rfl,h3⟩:=mk0 hc;cases h1;rw[hd] at h3 hrun;exact sim_mkM hi hx.kd hx.nt hop hd h3 hrun
    ·cases hc
   ·rename_i keys hk
    split at hc
    ·rename_i hlt;cases hc;rw[hd] at hrun;exact sim_mkm hi hx.kd hop hd (by rw[hx.nt];exact hlt) (by rw[hx.kd];exact hk) hrun
    ·cases hc
   ·cases hc
  ·cases hc
theorem op_lookup(hi:Inv cx G a w A σ)(hx:CxOk cx fi){t:TypeId}{x i:Operand}{ok:Bool}(hop:o.op=.lookup t x i ok)(hc:AqE P pur fi rg o=some ao)(hrun:runA pur call ao A σ=some (A',σ')):Gives P cx o a w A' σ':=by
 simp only[AqE,hop] at hc
 split at hc
 ·split at hc
  ·rename_i kt et ht
   split at hc
   ·rename_i kd z hkt hz;obtain⟨as,h1,rfl,h3⟩:=mk0 hc;exact sim_lkM hi hx.kd hx.nt hop ht hkt hz h1 h3 hrun
   ·cases hc
  ·cases hc
 split at hc
 ·rename_i kt et ht
  split at hc
  ·rename_i ik z hkt hz;obtain⟨as,h1,rfl,h3⟩:=mk0 hc;exact sim_look hi hx.kd hx.nt hop ht hkt (.inl ⟨ik,rfl⟩) hz h1 h3 hrun
  ·rename_i z hkt hz;obtain⟨as,h1,rfl,h3⟩:=mk0 hc;exact sim_look hi hx.kd hx.nt hop ht hkt (.inr rfl) hz h1 h3 hrun
  ·cases hc
 ·cases hc
theorem op_cut0(hi:Inv cx G a w A σ)(hx:CxOk cx fi){t:TypeId}{x:Operand}{k1 k2:IntKind}{p q:Int}(hop:o.op=.slice t x none (some (.const (.int k1 p))) (some (.const (.int k2 q))))(hc:AqE P pur fi rg o=some ao)(hrun:runA pur call ao A σ=some (A',σ')):Gives P cx o a w A' σ':=by
 simp only[AqE,hop] at hc
 split at hc
 case isFalse=>cases hc
 rename_i hpq;obtain⟨rfl,rfl⟩:=hpq
 split at hc
 ·rename_i e ht
  split at hc
  ·rename_i ag hcell;obtain⟨as,h1,rfl,h3⟩:=mk0 hc;exact sim_cut0 hi hx.kd hx.nt hop ht hcell h1 h3 hrun
  ·cases hc
 ·cases hc
theorem op_makeSlice(hi:Inv cx G a w A σ)(hx:CxOk cx fi){t:TypeId}{l c:Operand}(hop:o.op=.makeSlice t l c)(hc:AqE P pur fi rg o=some ao)(hrun:runA pur call ao A σ=some (A',σ')):Gives P cx o a w A' σ':=by
 simp only[AqE,hop] at hc
 split at hc
 ·rename_i e d ht hd
  split at hc
  ·rename_i it z hit hz
   split at hc
   ·rename_i hcc;rw[hd] at hc;obtain⟨as,h1,rfl,h3⟩:=mk0 hc;exact sim_mks hi hx.kd hx.nt hop hd ht hit hz hcc.1 hcc.2.1 hcc.2.2 h1 h3 hrun
   ·cases hc
  ·cases hc
 ·cases hc
theorem op_slice(hi:Inv cx G a w A σ)(hx:CxOk cx fi){t:TypeId}{x:Operand}{lo hi' mx:Option Operand}(hop:o.op=.slice t x lo hi' mx)(hc:AqE P pur fi rg o=some ao)(hrun:runA pur call ao A σ=some (A',σ')):Gives P cx o a w A' σ':=by
 cases mx with
 |some mx=>
  have hbad:∃k1 p k2 q,lo=none∧hi'=some (.const (.int k1 p))∧mx=.const (.int k2 q):=by
   simp only[AqE,hop] at hc
   split at hc<;>simp_all
  obtain⟨k1,p,k2,q,rfl,rfl,rfl⟩:=hbad;exact op_cut0 hi hx hop hc hrun
 |none=>
  simp only[AqE,hop] at hc
  split at hc
  ·rename_i ht
   split at hc
   ·rename_i as hcs;obtain⟨as',h1,rfl,h3⟩:=mk0 hc;cases h1;exact sim_ssl hi hx.kd hx.nt hop ht hcs h3 hrun
   ·cases hc
  ·rename_i e ht
   split at hc
   ·rename_i size ag as hcell hcs
    split at hc
    ·obtain⟨as',h1,rfl,h3⟩:=mk0 hc;cases h1;exact sim_vsl hi hx.kd hx.nt hop ht hcell hcs h3 hrun
    ·cases hc
   ·cases hc
  ·cases hc
theorem sim_fa'(hi:Inv cx G a w A σ)(hx:CxOk cx fi){t:TypeId}{s u f:Nat}(hop:o.op=.fieldAddr t (.tmp s) f)(hd:o.dst=some u)
  {fs:Array Field} {fl:Field} (hs:P.underlying t=some (.struct fs)) (hf:fs[f]?=some fl) {n:Nat} {ag:Bool} (hn:AqG P fl.type=some (n,ag)) (hn0:n≠0) (hlt:¬fi.nt≤s) (hnb:fi.kind s≠.box)
  (hal:∀b,fi.alias s=some b→fi.alias u=some b) (hpd:AqK fi u=true) (hrun:runA pur call { dst:=some u,k:=.p (.fa fl.offset n ag),args:=[.slot s] } A σ=some (A',σ')):Gives P cx o a w A' σ':=by
 by_cases hl:∃d' off,A.get s=some (.lref d' off)
 ·obtain⟨d',off,hg⟩:=hl;have hal1:=(AQL hi hg).2.1;rw[hx.al] at hal1;exact sim_fal2 hi hx.kd hx.nt hx.al hop hd hs hf hn hn0 hal1 (hal _ hal1) hpd hg hrun
 ·have hval:(fi.kind s).val=true:=by
   obtain⟨vs,rs,he,hsem,_,_⟩:=runX rfl hrun;obtain⟨p,qs,rfl,hp,hq⟩:=Aq1 he;cases hq;obtain⟨hg,_⟩:=AqQ hp;have hsl:=hi.slot s p hg;rw[←hx.kd];cases hk:cx.kd s with
   |box=>exact absurd (by rw[←hx.kd];exact hk) hnb
   |mapb keys=>
    have:=((Az4 hk).1 hsl).1;subst this;simp[semP,faV] at hsem
   |ent m key=>
    obtain⟨_,_,_,_,rfl,_⟩:=(AzJ hk).1 hsl;simp[semP,faV] at hsem
   |_=>rfl
  refine sim_fa hi hx.kd hx.nt hop hs hf hn hn0 ?_ (AJ1 hlt hval) (by rw[hd];exact hpd) (by rw[hd];exact hrun)
  rintro p d off rfl y hy he
  have:=AJ1 hlt hval;simp only[Aq2,hy] at this;cases this;exact hl ⟨d,off,(AqQ he).1⟩
theorem op_fieldAddr(hi:Inv cx G a w A σ)(hx:CxOk cx fi){t:TypeId}{x:Operand}{f:Nat}(hop:o.op=.fieldAddr t x f)(hc:AqE P pur fi rg o=some ao)(hrun:runA pur call ao A σ=some (A',σ')):Gives P cx o a w A' σ':=by
 simp only[AqE,hop] at hc
 split at hc
 ·rename_i fs ht
  split at hc
  ·rename_i fl hf
   split at hc
   ·rename_i n ag hcell
    split at hc
    ·cases hc
    ·rename_i hn0
     split at hc
     ·rename_i s u hd
      split at hc
      ·cases hc
      ·rename_i hlt
       split at hc
       ·rename_i hk
        split at hc
        ·rename_i hal;obtain⟨as,h1,rfl,h3⟩:=mk0 hc;cases h1;rw[hd] at h3 hrun;exact sim_fal hi hx.kd hx.nt hx.al hop hd ht hf hcell hn0 (by rw[hx.kd];exact hk) hal h3 hrun
        ·cases hc
       ·rename_i hnb
        split at hc
        ·rename_i b hal
         split at hc
         ·rename_i hcc;obtain⟨as,h1,rfl,h3⟩:=mk0 hc;cases h1;rw[hd] at h3 hrun;exact sim_fa' hi hx hop hd ht hf hcell hn0 hlt hnb (fun b' hb'=>by rw[hal] at hb';cases hb';exact hcc.1) h3 hrun
         ·cases hc
        ·rename_i hal;obtain⟨as,h1,rfl,h3⟩:=mk0 hc;cases h1;rw[hd] at h3 hrun;exact sim_fa' hi hx hop hd ht hf hcell hn0 hlt hnb (fun b' hb'=>by rw[hal] at hb';cases hb') h3 hrun
     ·cases hc
   ·cases hc
  ·cases hc
 ·cases hc
theorem sim_ixa'(hi:Inv cx G a w A σ)(hx:CxOk cx fi){t e:TypeId}{s u:Nat}{i:Operand}(hop:o.op=.indexAddr t (.tmp s) i)(hd:o.dst=some u)
  {n:Nat} (ht:P.underlying t=some (.array n e)) {size:Nat} {ag:Bool} (hsz:AqG P e=some (size,ag)) (hlt:¬fi.nt≤s) (hnb:fi.kind s≠.box)
  (hal:∀b,fi.alias s=some b→fi.alias u=some b) (hpd:AqK fi u=true) {as:List AArg} (hc:Aq2 fi [i]=some as) (hrun:runA pur call { dst:=some u,k:=.p (.ixa n size ag),args:=.slot s::as } A σ=some (A',σ')):Gives P cx o a w A' σ':=by
 by_cases hl:∃d' off,A.get s=some (.lref d' off)
 ·obtain⟨d',off,hg⟩:=hl;have hal1:=(AQL hi hg).2.1;rw[hx.al] at hal1;exact sim_ixa2 hi hx.kd hx.nt hx.al hop hd ht hsz hal1 (hal _ hal1) hpd hg hc hrun
 ·have hval:(fi.kind s).val=true:=by
   obtain⟨vs,rs,he,hsem,_,_⟩:=runX rfl hrun;obtain⟨p,qs,rfl,hp,hq⟩:=Aq1 he;obtain⟨y,zs,rfl,hy,hz⟩:=Aq3 hc;cases hz;obtain⟨q,qs,rfl,hp2,hq⟩:=Aq1 hq;cases hq;obtain⟨hg,_⟩:=AqQ hp;have hsl:=hi.slot s p hg;rw[←hx.kd];have hno:∀p,ixV n size ag p q=none→semP (.ixa n size ag) [p,q]=none:=fun p h=>by simp only[semP,h];rfl
   cases hk:cx.kd s with
   |box=>exact absurd (by rw[←hx.kd];exact hk) hnb
   |mapb keys=>
    have:=((Az4 hk).1 hsl).1;subst this;rw[hno _ (by unfold ixV;split<;>first | rfl | (split<;>rfl))] at hsem;cases hsem
   |ent m key=>
    obtain⟨_,_,_,_,rfl,_⟩:=(AzJ hk).1 hsl;rw[hno _ (by unfold ixV;split<;>first | rfl | (split<;>rfl))] at hsem;cases hsem
   |_=>rfl
  have hcs:=AJ1 hlt hval
  have hc2:Aq2 fi [.tmp s,i]=some (.slot s::as):=by
   simp only[Aq2] at hcs hc ⊢
   split at hcs
   ·rename_i y1 ys1 q1 q2;cases hcs;rw[q1]
    split at hc
    ·rename_i y2 ys2 q3 q4;cases hc;cases q4;rfl
    ·cases hc
   ·cases hcs
  refine sim_ixa hi hx.kd hx.nt hop ht hsz ?_ hc2 (by rw[hd];exact hpd) (by rw[hd];exact hrun)
  rintro p d off rfl y hy he
  simp only[Aq2,hy] at hcs;cases hcs;exact hl ⟨d,off,(AqQ he).1⟩
theorem op_indexAddr(hi:Inv cx G a w A σ)(hx:CxOk cx fi){t:TypeId}{x i:Operand}(hop:o.op=.indexAddr t x i)(hc:AqE P pur fi rg o=some ao)(hrun:runA pur call ao A σ=some (A',σ')):Gives P cx o a w A' σ':=by
 simp only[AqE,hop] at hc
 split at hc
 ·rename_i e ht
  split at hc
  ·rename_i size ag hcell
   split at hc
   ·obtain⟨as,h1,rfl,h3⟩:=mk0 hc;exact sim_idx hi hx.kd hx.nt hop ht hcell h1 h3 hrun
   ·cases hc
  ·cases hc
 ·rename_i n e ht
  split at hc
  ·rename_i size ag hcell
   split at hc
   ·cases hc
   ·split at hc
    ·rename_i s u hd
     split at hc
     ·cases hc
     ·rename_i hlt
      split at hc
      ·rename_i hk
       split at hc
       ·rename_i hal;obtain⟨as,h1,rfl,h3⟩:=mk0 hc;obtain⟨as',h1',rfl⟩:=Option.map_eq_some_iff.1 h1;rw[hd] at h3 hrun;exact sim_ixl hi hx.kd hx.nt hx.al hop hd ht hcell (by rw[hx.kd];exact hk) hal h3 h1' hrun
       ·cases hc
      ·rename_i hnb
       split at hc
       ·rename_i b hal
        split at hc
        ·rename_i hcc;obtain⟨as,h1,rfl,h3⟩:=mk0 hc;obtain⟨as',h1',rfl⟩:=Option.map_eq_some_iff.1 h1;rw[hd] at h3 hrun;exact sim_ixa' hi hx hop hd ht hcell hlt hnb (fun b' hb'=>by rw[hal] at hb';cases hb';exact hcc.1) h3 h1' hrun
        ·cases hc
       ·rename_i hal;obtain⟨as,h1,rfl,h3⟩:=mk0 hc;obtain⟨as',h1',rfl⟩:=Option.map_eq_some_iff.1 h1;rw[hd] at h3 hrun;exact sim_ixa' hi hx hop hd ht hcell hlt hnb (fun b' hb'=>by rw[hal] at hb';cases hb') h3 h1' hrun
    ·cases hc
  ·cases hc
 ·cases hc
theorem op_call{ro:Option Nat}{n:Nat}{K:Act→World→Prop}{Q:Exit→Act→World→Prop}(hS:Sound P call)(hi:Inv cx G a w A σ)(hx:CxOk cx fi){c:Call}(hop:o.op=.call c)(hc:AqE P pur fi rg o=some ao)
  (hrun:runA pur call ao A σ=some (A',σ')) (hk:∀a' w',Sim cx a' w' A' σ'→Kept o.dst a a'→K a' w'):o.wpIn (FW ro) n P a w K Q:=by
 have hnd:∀c',o.op≠.defer c':=by simp[hop]
 simp only[AqE,hop] at hc
 split at hc
 ·rename_i f hcal
  split at hc
  ·obtain⟨as,h1,rfl,h3⟩:=mk0 hc;exact sim_c hS hi hx.kd hx.nt hop hcal h1 h3 hrun hk
  split at hc
  ·rename_i hm;obtain⟨d,hd⟩:=Option.isSome_iff_exists.1 hm.2;obtain⟨as,h1,rfl,h3⟩:=mk0 hc;exact sim_callz hS hi hx.kd hx.nt hop hcal hd h1 h3 hrun hk
  ·obtain⟨as,h1,rfl,h3⟩:=mk0 hc;exact sim_call hS hi hx.kd hx.nt hop hcal h1 h3 hrun hk
 ·rename_i x _ hcal;obtain⟨as,h1,rfl,h3⟩:=mk0 hc;exact sim_calld hS hi hx.kd hx.nt hop hcal h1 h3 hrun hk
 ·rename_i hcal
  split at hc
  ·rename_i ht;obtain⟨as,h1,rfl,h3⟩:=mk0 hc;exact(sim_len hi hx.kd hx.nt hop hcal (.inl ⟨rfl,ht⟩) h1 h3 hrun).wp hnd hk
  ·rename_i e ht;obtain⟨as,h1,rfl,h3⟩:=mk0 hc;exact(sim_len hi hx.kd hx.nt hop hcal (.inr ⟨rfl,e,ht⟩) h1 h3 hrun).wp hnd hk
  ·rename_i kt et ht;obtain⟨as,h1,rfl,h3⟩:=mk0 hc;exact(sim_lnM hi hx.kd hx.nt hop hcal ht h1 h3 hrun).wp hnd hk
  ·cases hc
 ·rename_i hcal
  split at hc
  ·rename_i e ht;obtain⟨as,h1,rfl,h3⟩:=mk0 hc;exact(sim_cap0 hi hx.kd hx.nt hop hcal ⟨e,ht⟩ h1 h3 hrun).wp hnd hk
  ·cases hc
 ·rename_i hcal
  split at hc
  ·split at hc
   ·rename_i s x y z d htys hargs hd;have htys':c.argTypes=#[s,x]:=by apply Array.toList_inj.1;exact htys
    have hargs':c.args=#[y,z]:=by apply Array.toList_inj.1;exact hargs
    split at hc
    ·rename_i e e' hs hxx
     split at hc
     ·rename_i it hit
      split at hc
      ·rename_i hcc;rw[hd] at hc;obtain⟨as,h1,rfl,h3⟩:=mk0 hc;exact(sim_appA hi hx.kd hx.nt hop hcal hargs' htys' hd hs ⟨e',hxx⟩ hit hcc.1 hcc.2.1 hcc.2.2 h1 h3 hrun).wp hnd hk
      ·cases hc
     ·cases hc
    ·rename_i e k' hs hxx
     split at hc
     ·rename_i it zp hit hz
      split at hc
      ·rename_i hcc;rw[hd] at hc;obtain⟨as,h1,rfl,h3⟩:=mk0 hc;exact(sim_appZ hi hx.kd hx.nt hop hcal hargs' htys' hd hs hxx hit hz hcc.1 hcc.2.1 hcc.2.2 h1 h3 hrun).wp hnd hk
      ·cases hc
     ·cases hc
    ·cases hc
   ·cases hc
  split at hc
  ·rename_i s x u y d htys hargs hd;have htys':c.argTypes=#[s,x]:=by apply Array.toList_inj.1;exact htys
   have hargs':c.args=#[.tmp u,y]:=by apply Array.toList_inj.1;exact hargs
   split at hc
   ·rename_i e e' hs hxx
    split at hc
    ·rename_i it hit
     split at hc
     ·rename_i hcc;rw[hd] at hc;obtain⟨as,h1,rfl,h3,h4,h5⟩:=mk1 hc;exact(sim_app hi hx.kd hx.nt hop hcal hargs' htys' hd hs (.inl ⟨e',hxx⟩) hit hcc.1 hcc.2.1 hcc.2.2 h1 h3 h4 h5 hrun).wp hnd hk
     ·cases hc
    ·cases hc
   ·rename_i e hs hxx
    split at hc
    ·rename_i it hit
     split at hc
     ·rename_i hcc;rw[hd] at hc;obtain⟨as,h1,rfl,h3,h4,h5⟩:=mk1 hc;exact(sim_app hi hx.kd hx.nt hop hcal hargs' htys' hd hs (.inr hxx) hit (by omega) hcc.2.1 hcc.2.2 h1 h3 h4 h5 hrun).wp hnd hk
     ·cases hc
    ·cases hc
   ·cases hc
  ·cases hc
 ·rename_i hcal
  split at hc
  ·obtain⟨as,h1,rfl,h3⟩:=mk0 hc;exact(sim_min hi hx.kd hx.nt hop hcal h1 h3 hrun).wp hnd hk
  ·cases hc
 ·rename_i hcal
  split at hc
  ·obtain⟨as,h1,rfl,h3⟩:=mk0 hc;exact(sim_max hi hx.kd hx.nt hop hcal h1 h3 hrun).wp hnd hk
  ·cases hc
 ·cases hc
theorem op_sound{ro:Option Nat}{n:Nat}{K:Act→World→Prop}{Q:Exit→Act→World→Prop}(hS:Sound P call)(hi:Inv cx G a w A σ)(hx:CxOk cx fi)(hc:AqE P pur fi rg o=some ao)
  (hrun:runA pur call ao A σ=some (A',σ')) (hk:∀a' w',Sim cx a' w' A' σ'→Kept o.dst a a'→K a' w'):o.wpIn (FW ro) n P a w K Q:=by
 have gv:Gives P cx o a w A' σ'→(∀c',o.op≠.defer c')→o.wpIn (FW ro) n P a w K Q:=fun h hd=>h.wp hd hk
 cases hop:o.op with
 |move x=>exact gv (op_move hi hx hop hc hrun) (by simp[hop])
 |assign x=>exact gv (op_assign hi hx hop hc hrun) (by simp[hop])
 |pick c x y=>
  refine gv ?_ (by simp[hop])
  simp only[AqE,hop] at hc;obtain⟨as,h1,rfl,h3⟩:=mk0 hc;exact sim_pick hi hx.kd hx.nt hop h1 h3 hrun
 |box t x=>exact gv (op_box hi hx hop hc hrun) (by simp[hop])
 |alloc t=>exact gv (op_alloc hi hx hop hc hrun) (by simp[hop])
 |build t ps=>exact gv (op_build hi hx hop hc hrun) (by simp[hop])
 |buildSlice t n ps=>exact gv (op_buildSlice hi hx hop hc hrun) (by simp[hop])
 |load t x=>exact gv (op_load hi hx hop hc hrun) (by simp[hop])
 |store t x y=>exact gv (op_store hi hx hop hc hrun) (by simp[hop])
 |nilCheck x=>
  refine gv ?_ (by simp[hop])
  simp only[AqE,hop] at hc;obtain⟨as,h1,rfl,h3⟩:=mk0 hc;exact sim_chk hi hx.kd hx.nt hop h1 h3 hrun
 |binOp op t x y yt=>exact gv (op_binOp hi hx hop hc hrun) (by simp[hop])
 |unOp op t x=>
  refine gv ?_ (by simp[hop])
  cases op with
  |not=>
   simp only[AqE,hop] at hc;obtain⟨as,h1,rfl,h3⟩:=mk0 hc;exact sim_not hi hx.kd hx.nt hop h1 h3 hrun
  |_=>simp[AqE,hop] at hc
 |convert s t x=>exact gv (op_convert hi hx hop hc hrun) (by simp[hop])
 |makeFunc fn first cap=>
  refine gv ?_ (by simp[hop])
  cases fn with
  |func f=>
   simp only[AqE,hop] at hc;obtain⟨as,h1,rfl,h3⟩:=mk0 hc;exact sim_mkf hi hx.kd hx.nt hop h1 h3 hrun
  |_=>simp[AqE,hop] at hc
 |makeMap t r=>exact gv (op_makeMap hi hx hop hc hrun) (by simp[hop])
 |makeSlice t l c=>exact gv (op_makeSlice hi hx hop hc hrun) (by simp[hop])
 |insert t m k x=>exact gv (op_insert hi hx hop hc hrun) (by simp[hop])
 |lookup t x i ok=>exact gv (op_lookup hi hx hop hc hrun) (by simp[hop])
 |mapUpdate t m k x=>
  refine gv ?_ (by simp[hop])
  simp only[AqE,hop] at hc
  split at hc
  ·rename_i kt et ht
   split at hc
   ·rename_i kd hkt hd;obtain⟨as,h1,rfl,h3⟩:=mk0 hc;rw[hd] at hrun;exact sim_upM hi hx.kd (.inl hop) hd ht hkt h1 hrun
   ·cases hc
  ·cases hc
 |mapEntry t m k=>
  refine gv ?_ (by simp[hop])
  simp only[AqE,hop] at hc
  split at hc
  ·rename_i kt et ht
   split at hc
   ·rename_i kd z hkt hz;obtain⟨as,h1,rfl,h3⟩:=mk0 hc;exact sim_enM hi hx.kd hx.nt hop ht hkt hz h1 h3 hrun
   ·cases hc
  ·cases hc
 |entryStore t m i x=>
  refine gv ?_ (by simp[hop])
  simp only[AqE,hop] at hc
  split at hc
  ·rename_i hd;obtain⟨as,h1,rfl,h3⟩:=mk0 hc;rw[hd] at hrun;exact sim_esM hi hx.kd hop hd h1 hrun
  ·cases hc
 |indexAddr t x i=>exact gv (op_indexAddr hi hx hop hc hrun) (by simp[hop])
 |index t x i=>
  refine gv ?_ (by simp[hop])
  simp only[AqE,hop] at hc
  split at hc
  ·rename_i ht;obtain⟨as,h1,rfl,h3⟩:=mk0 hc;exact sim_sidx hi hx.kd hx.nt hop ht h1 h3 hrun
  ·cases hc
 |slice t x lo hi' mx=>exact gv (op_slice hi hx hop hc hrun) (by simp[hop])
 |fieldAddr t x f=>exact gv (op_fieldAddr hi hx hop hc hrun) (by simp[hop])
 |field t x f=>
  refine gv ?_ (by simp[hop])
  simp only[AqE,hop] at hc
  split at hc
  ·rename_i fs hs
   split at hc
   ·rename_i fl hf
    split at hc
    ·rename_i n ag hn;obtain⟨as,h1,rfl,h3⟩:=mk0 hc;exact sim_fld hi hx.kd hx.nt hop hs hf hn h1 h3 hrun
    ·cases hc
   ·cases hc
  ·cases hc
 |extract x i=>
  refine gv ?_ (by simp[hop])
  simp only[AqE,hop] at hc;obtain⟨as,h1,rfl,h3⟩:=mk0 hc;exact sim_ext hi hx.kd hx.nt hop h1 h3 hrun
 |call c=>exact op_call hS hi hx hop hc hrun hk
 |panic x=>
  simp only[AqE,hop] at hc;obtain⟨as,h1,rfl,h3⟩:=mk0 hc;obtain⟨vs,rs,_,hs,_,_⟩:=runX rfl hrun;cases vs<;>simp[semP] at hs
 |makeInterface t x=>
  simp only[AqE,hop] at hc;obtain⟨as,h1,rfl,h3⟩:=mk0 hc;obtain⟨vs,rs,_,hs,_,_⟩:=runX rfl hrun;cases vs<;>simp[semP] at hs
 |_=>simp[AqE,hop] at hc
end
end Go.Abs
