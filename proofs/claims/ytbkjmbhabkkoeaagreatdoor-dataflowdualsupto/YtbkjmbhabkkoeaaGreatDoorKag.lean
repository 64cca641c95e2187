/- A part of the proof: A28 A29 A44 A30 A31 A32. -/
import Derived.Test.YtbkjmbhabkkoeaaGreatDoorKae
import Derived.Test.YtbkjmbhabkkoeaaGreatDoorKaf
import Derived.Test.YtbkjmbhabkkoeaaGreatDoorKaa

set_option linter.unusedVariables false
set_option linter.unusedSimpArgs false
namespace Go.Abs
open Go.RowKit
structure Dp(cx:Cx)(fi:FI):Prop where
 kd:∀t,cx.kd t=fi.kind t
 nt:cx.nt=fi.nt
 al:∀t,cx.al t=fi.alias t
section
variable{P:Program}{pur:FuncId→Bool}{call:Caller}{fi:FI}{cx:Cx}{G:Gh}{a:Act}{w:World}{A A':Frm}{σ σ':Sto}{rg:RG}{o:Oper}{ao:AOp}
theorem mk0{d:Option Nat}{k:AK}{args:Option (List Ct)}(h:mk fi d k args=some ao):∃az,args=some az∧ao={ dst:=d,k,args:=az }∧BA fi d=true:=by
 obtain⟨az,h1,h2,h3,_⟩:=Qm h;exact⟨az,h1,h2,h3⟩
theorem mk1{d s:Nat}{k:AK}{args:Option (List Ct)}(h:mk fi (some d) k args [s]=some ao):∃az,args=some az∧ao={ dst:=some d,k,args:=az,ex:=[s] }∧CJ fi d=true∧CJ fi s=true∧d≠s:=by
 obtain⟨az,h1,h2,h3,h4,h5⟩:=Qm h;refine⟨az,h1,h2,h3,by simpa using h4,?_⟩
 simp at h5;exact h5
theorem pI(hi:Inv cx G a w A σ)(hx:Dp cx fi){x:Operand}(hop:o.op=.move x)(hc:BU P pur fi rg o=some ao)(hrun:BV pur call ao A σ=some (A',σ')):Gives P cx o a w A' σ':=by
 simp only[BU,hop] at hc
 split at hc
 ·obtain⟨az,h1,rfl,h3⟩:=mk0 hc;exact om hi hx.kd hx.nt hop h1 h3 hrun
 split at hc
 ·rename_i s t hd
  split at hc
  ·rename_i keys hk
   split at hc
   ·rename_i hcc;cases hc;rw[hd] at hrun;exact nO hi hx.kd hx.nt hop hd (by rw[hx.kd];exact hk) hcc.1 hrun
   ·cases hc
  ·split at hc
   ·rw[hd] at hc;obtain⟨az,h1,rfl,h3,h4,_⟩:=mk1 hc;exact Zz hi hx.kd hx.nt (.inl hop) hd h1 h3 h4 hrun
   ·obtain⟨az,h1,rfl,h3⟩:=mk0 hc;exact UH hi hx.kd hx.nt (.inl hop) h1 h3 hrun
 ·obtain⟨az,h1,rfl,h3⟩:=mk0 hc;exact UH hi hx.kd hx.nt (.inl hop) h1 h3 hrun
theorem bM(hi:Inv cx G a w A σ)(hx:Dp cx fi){x:Operand}(hop:o.op=.assign x)(hc:BU P pur fi rg o=some ao)(hrun:BV pur call ao A σ=some (A',σ')):Gives P cx o a w A' σ':=by
 simp only[BU,hop] at hc
 split at hc
 ·split at hc
  ·rename_i s d hd;rw[hd] at hc;obtain⟨az,h1,rfl,h3,h4,h5⟩:=mk1 hc;exact nE hi hx.kd hx.nt hop hd h1 h3 h4 h5 hrun
  ·cases hc
 split at hc
 ·rename_i s
  split at hc
  ·cases hd:o.dst with
   |none=>
    rw[hd] at hc;obtain⟨az,h1,rfl,h3,h4,h5⟩:=Qm hc;obtain⟨vs,rs,he,hs,rfl,hA⟩:=Gr rfl hrun;obtain⟨y,zs,rfl,hy,hz⟩:=AL h1;cases hz;obtain⟨p,qs,rfl,hp,hq⟩:=Au he;cases hq;simp only[AJ] at hs
    split at hs
    ·cases hs;unfold BV at hrun;dsimp only at he hrun;rw[he] at hrun;simp only[sem,AJ] at hrun
     simp_all
    ·cases hs
   |some d=>
    rw[hd] at hc;obtain⟨az,h1,rfl,h3,h4,_⟩:=mk1 hc;exact Zz hi hx.kd hx.nt (.inr hop) hd h1 h3 h4 hrun
  ·obtain⟨az,h1,rfl,h3⟩:=mk0 hc;exact UH hi hx.kd hx.nt (.inr hop) h1 h3 hrun
 ·obtain⟨az,h1,rfl,h3⟩:=mk0 hc;exact UH hi hx.kd hx.nt (.inr hop) h1 h3 hrun
theorem uq(hi:Inv cx G a w A σ)(hx:Dp cx fi){t:TypeId}{x:Operand}(hop:o.op=.box t x)(hc:BU P pur fi rg o=some ao)(hrun:BV pur call ao A σ=some (A',σ')):Gives P cx o a w A' σ':=by
 simp only[BU,hop] at hc
 split at hc
 ·rename_i s nag hd hcell
  split at hc
  ·cases hc
  ·rename_i hlt;have hlt':s<cx.nt:=by rw[hx.nt];exact Nat.lt_of_not_le hlt
   rw[hd] at hc
   split at hc
   ·rename_i hk;obtain⟨az,h1,rfl⟩:=Ac.1 hc;exact oJ hi hx.kd hx.al hop hd hlt' (by rw[hx.kd];exact hk) h1 hrun
   ·rename_i hk;obtain⟨az,h1,rfl⟩:=Ac.1 hc;refine tC hi hx.kd hop (fun d hd'=>?_) h1 (by rw[hd];exact hrun)
    rw[hd] at hd';cases hd';exact⟨hlt',by rw[hx.kd,hk];rfl⟩
   ·rename_i hk;obtain⟨az,h1,rfl⟩:=Ac.1 hc;exact oK hi hx.kd hop hd hlt' (by rw[hx.kd,hk];rfl) h1 hrun
   ·cases hc
 ·cases hc
theorem jm(hi:Inv cx G a w A σ)(hx:Dp cx fi){t:TypeId}(hop:o.op=.alloc t)(hc:BU P pur fi rg o=some ao)(hrun:BV pur call ao A σ=some (A',σ')):Gives P cx o a w A' σ':=by
 simp only[BU,hop] at hc
 split at hc
 ·rename_i s n ag z hd hcell hz
  split at hc
  ·cases hc
  ·rename_i hlt;have hlt':s<cx.nt:=by rw[hx.nt];exact Nat.lt_of_not_le hlt
   rw[hd] at hc
   split at hc
   ·rename_i hk;cases hc;exact sZ hi hx.al hop hd hlt' (by rw[hx.kd];exact hk) hz hrun
   ·rename_i hk
    split at hc
    ·rename_i hzn;cases hc;exact tq hi hop hd hlt' (by rw[hx.kd,hk];rfl) hz hzn hrun
    ·cases hc
   ·rename_i hk
    split at hc
    ·rename_i bt be hbt
     split at hc
     ·rename_i hbe
      split at hc
      ·cases hc;exact oO hi hop hd hlt' (by rw[hx.kd,hk];rfl) hz hrun
      ·cases hc
     ·cases hc;exact ZG hi hop hd hlt' (by rw[hx.kd,hk];rfl) hz hrun
    ·cases hc;exact ZG hi hop hd hlt' (by rw[hx.kd,hk];rfl) hz hrun
   ·cases hc
 ·cases hc
theorem jk(hi:Inv cx G a w A σ)(hx:Dp cx fi){t:TypeId}{ps:Array (Nat×Operand)}(hop:o.op=.build t ps)(hc:BU P pur fi rg o=some ao)(hrun:BV pur call ao A σ=some (A',σ')):Gives P cx o a w A' σ':=by
 simp only[BU,hop] at hc
 split at hc
 ·rename_i fs z hs hz
  split at hc
  ·rename_i places hpl
   split at hc
   ·rename_i pl hpp;obtain⟨az,h1,rfl,h3⟩:=mk0 hc;exact bg hi hx.kd hx.nt hop hs hz hpl hpp h1 h3 hrun
   ·cases hc
  ·cases hc
 ·cases hc
theorem Tp(hi:Inv cx G a w A σ)(hx:Dp cx fi){t:TypeId}{n:Nat}{ps:Array (Nat×Operand)}(hop:o.op=.buildSlice t n ps)(hc:BU P pur fi rg o=some ao)(hrun:BV pur call ao A σ=some (A',σ')):Gives P cx o a w A' σ':=by
 simp only[BU,hop] at hc
 split at hc
 ·split at hc
  ·rename_i e d hs hd
   split at hc
   ·rename_i size ag hcell
    split at hc
    ·rename_i hcc;simp only[Ak,beq_iff_eq,decide_eq_true_eq] at hcc;obtain⟨⟨⟨⟨⟨c1,c2⟩,c3⟩,c4⟩,c5⟩,c6⟩:=hcc;rw[hd] at hc;obtain⟨az,h1,rfl,h3⟩:=mk0 hc;exact oN hi hx.kd hx.nt hop hd hs hcell c1 c2 c3 c4 c5 c6 h1 h3 hrun
    ·cases hc
   ·cases hc
  ·cases hc
 split at hc
 ·split at hc
  ·rename_i e hs
   split at hc
   ·rename_i ag hcell
    split at hc
    ·rename_i hcc;obtain⟨rfl,rfl⟩:=hcc;obtain⟨az,h1,rfl,h3⟩:=mk0 hc;cases h1;exact oM hi hx.kd hx.nt hop hs hcell h3 hrun
    ·cases hc
   ·cases hc
  ·cases hc
 split at hc
 ·rename_i e hs
  split at hc
  ·rename_i size ag hcell
   split at hc
   ·rename_i hcc;simp only[Ak,beq_iff_eq,decide_eq_true_eq] at hcc;obtain⟨⟨⟨⟨⟨c1,c2⟩,c3⟩,c4⟩,c5⟩,c6⟩:=hcc;obtain⟨az,h1,rfl,h3⟩:=mk0 hc;exact oL hi hx.kd hx.nt hop hs hcell c1 c2 c3 c4 c5 c6 h1 h3 hrun
   ·cases hc
  ·cases hc
 ·cases hc
theorem OZ{s:Nat}(hlt:¬fi.nt≤s)(hk:(fi.kind s).val=true):Aq fi [.tmp s]=some [.slot s]:=by
 have hlt':s<fi.nt:=by omega
 simp only[Aq,EK];cases h:fi.kind s<;>rw[h] at hk<;>first | (simp[SK.val] at hk;done) | simp[hlt']
theorem pJ(hi:Inv cx G a w A σ)(hx:Dp cx fi){t:TypeId}{x:Operand}(hop:o.op=.load t x)(hc:BU P pur fi rg o=some ao)(hrun:BV pur call ao A σ=some (A',σ')):Gives P cx o a w A' σ':=by
 cases hd:o.dst with
 |none=>
  simp only[BU,hop,hd,Bool.and_false,Bool.false_eq_true,if_false] at hc
  split at hc
  ·rename_i n ag hcell
   split at hc
   ·rename_i s
    split at hc
    ·cases hc
    ·rename_i hlt
     split at hc
     ·rename_i hk
      split at hc
      ·simp at hc
      obtain⟨az,h1,rfl,h3⟩:=mk0 hc;cases h1;exact UJ hi hx.kd hx.nt hop (by rw[hx.kd];exact hk) hcell (by rw[hd];exact h3) (by rw[hd];exact hrun)
     ·split at hc
      ·rename_i b hal
       split at hc
       ·rename_i hkb;obtain⟨az,h1,rfl,h3⟩:=mk0 hc;cases h1;exact ZB hi hx.kd hx.nt hop hcell (by rw[hd];exact h3) (by rw[hd];exact hrun)
       ·cases hc
      ·split at hc
       ·obtain⟨az,h1,rfl,h3⟩:=mk0 hc;exact UI hi hx.kd hx.nt hop hcell h1 (by rw[hd];exact h3) (by rw[hd];exact hrun)
       ·split at hc
        ·cases hc
        rename_i hn0;obtain⟨az,h1,rfl,h3⟩:=mk0 hc;exact gq hi hx.kd hx.nt hop hcell hn0 h1 (by rw[hd];exact h3) (by rw[hd];exact hrun)
   ·cases hc
  ·cases hc
 |some u=>
  simp only[BU,hop,hd] at hc
  split at hc
  ·rename_i n ag hcell
   split at hc
   ·rename_i s
    split at hc
    ·cases hc
    ·rename_i hlt
     split at hc
     ·rename_i hk
      split at hc
      ·split at hc
       ·rename_i hcc;simp only[Ak] at hcc;cases hc;obtain⟨⟨h1,_⟩,rfl⟩:=hcc;exact nY hi hx.kd hx.nt hop hd (by rw[hx.kd];exact hk) hcell h1 hrun
       ·cases hc
      obtain⟨az,h1,rfl,h3⟩:=mk0 hc;cases h1;exact UJ hi hx.kd hx.nt hop (by rw[hx.kd];exact hk) hcell (by rw[hd];exact h3) (by rw[hd];exact hrun)
     ·split at hc
      ·rename_i b hal
       split at hc
       ·rename_i hkb
        split at hc
        ·rename_i hcc;simp only[Ak,ED] at hcc
         split at hc
         ·rename_i hpd;cases hc;obtain⟨rfl,_⟩:=hcc;exact gp hi hx.kd hx.nt hop hd hcell hpd hrun
         ·cases hc
        ·obtain⟨az,h1,rfl,h3⟩:=mk0 hc;cases h1;exact ZB hi hx.kd hx.nt hop hcell (by rw[hd];exact h3) (by rw[hd];exact hrun)
       ·cases hc
      ·split at hc
       ·rename_i hcc;obtain⟨az,h1,rfl,h3⟩:=mk0 hc;simp only[Ak,ED] at hcc;obtain⟨rfl,_⟩:=hcc;exact nZ hi hx.kd hx.nt hop hd hcell h3 h1 hrun
       ·split at hc
        ·obtain⟨az,h1,rfl,h3⟩:=mk0 hc;exact UI hi hx.kd hx.nt hop hcell h1 (by rw[hd];exact h3) (by rw[hd];exact hrun)
        ·split at hc
         ·cases hc
         rename_i hn0;obtain⟨az,h1,rfl,h3⟩:=mk0 hc;exact gq hi hx.kd hx.nt hop hcell hn0 h1 (by rw[hd];exact h3) (by rw[hd];exact hrun)
   ·cases hc
  ·cases hc
theorem jf(hi:Inv cx G a w A σ)(hx:Dp cx fi){t:TypeId}{y x:Operand}(hop:o.op=.store t y x)(hc:BU P pur fi rg o=some ao)(hrun:BV pur call ao A σ=some (A',σ')):Gives P cx o a w A' σ':=by
 simp only[BU,hop] at hc
 split at hc
 ·rename_i n ag s hcell hd
  split at hc
  ·cases hc
  ·rename_i hlt
   split at hc
   ·rename_i hk;obtain⟨az,h1,rfl⟩:=Ac.1 hc;exact nH hi hx.kd hop hd (by rw[hx.kd];exact hk) hcell h1 hrun
   ·rename_i hk
    split at hc
    ·obtain⟨az,h1,rfl⟩:=Ac.1 hc;exact nJ hi hx.kd hop hd (by rw[hx.kd,hk];rfl) hcell h1 hrun
    obtain⟨az,h1,rfl⟩:=Ac.1 hc;exact nI hi hx.kd hop hd (by rw[hx.kd,hk];rfl) hcell h1 hrun
   ·rename_i hnb _;have hnb':cx.kd s≠.box:=by rw[hx.kd];exact hnb
    split at hc
    ·rename_i b hal
     split at hc
     ·rename_i hkb
      split at hc
      ·rename_i u
       split at hc
       ·rename_i hcc;simp only[Ak,beq_iff_eq] at hcc;cases hc;exact fT hi hx.kd hx.nt hop hd hcell hcc.2 hcc.1.2 hrun
       ·obtain⟨az,h1,rfl⟩:=Ac.1 hc;exact Zy hi hx.kd hop hd hcell h1 hrun
      ·obtain⟨az,h1,rfl⟩:=Ac.1 hc;exact Zy hi hx.kd hop hd hcell h1 hrun
     ·cases hc
    ·split at hc
     ·rename_i u
      split at hc
      ·rename_i hcc;simp only[Ak,beq_iff_eq] at hcc;cases hc;exact nG hi hx.kd hx.nt hop hd hnb' hcell hcc.2 hcc.1.2 hrun
      ·obtain⟨az,h1,rfl⟩:=Ac.1 hc;exact fU hi hx.kd hop hd hnb' hcell h1 hrun
     ·obtain⟨az,h1,rfl⟩:=Ac.1 hc;exact fU hi hx.kd hop hd hnb' hcell h1 hrun
 ·cases hc
theorem jl(hi:Inv cx G a w A σ)(hx:Dp cx fi){op:BinOp}{t yt:TypeId}{x y:Operand}(hop:o.op=.binOp op t x y yt)(hc:BU P pur fi rg o=some ao)(hrun:BV pur call ao A σ=some (A',σ')):Gives P cx o a w A' σ':=by
 simp only[BU,hop] at hc
 split at hc
 ·obtain⟨az,h1,rfl,h3⟩:=mk0 hc;exact Qe hi hx.kd hx.nt hop (by simp) (by simp) h1 h3 hrun
 ·obtain⟨az,h1,rfl,h3⟩:=mk0 hc;exact Qe hi hx.kd hx.nt hop (by simp) (by simp) h1 h3 hrun
 ·rename_i ht;obtain⟨az,h1,rfl,h3⟩:=mk0 hc;exact Qe hi hx.kd hx.nt hop (fun _=>ht) (by simp) h1 h3 hrun
 ·rename_i ps rs v ht;obtain⟨az,h1,rfl,h3⟩:=mk0 hc;exact Qe hi hx.kd hx.nt hop (by simp) (fun _=>⟨ps,rs,v,ht⟩) h1 h3 hrun
 ·rename_i e ht
  split at hc
  ·obtain⟨az,h1,rfl,h3⟩:=mk0 hc;exact V9 hi hx.kd hx.nt (ne:=false) rfl hop ht h1 h3 hrun
  ·obtain⟨az,h1,rfl,h3⟩:=mk0 hc;exact V9 hi hx.kd hx.nt (ne:=true) rfl hop ht h1 h3 hrun
  ·obtain⟨az,h1,rfl,h3⟩:=mk0 hc;obtain⟨vs,rs,_,hs,_,_⟩:=Gr rfl hrun;cases vs<;>simp[AJ] at hs
 ·rename_i e ht
  split at hc
  ·obtain⟨az,h1,rfl,h3⟩:=mk0 hc;exact V8 hi hx.kd hx.nt (ne:=false) rfl hop ht h1 h3 hrun
  ·obtain⟨az,h1,rfl,h3⟩:=mk0 hc;exact V8 hi hx.kd hx.nt (ne:=true) rfl hop ht h1 h3 hrun
  ·obtain⟨az,h1,rfl,h3⟩:=mk0 hc;obtain⟨vs,rs,_,hs,_,_⟩:=Gr rfl hrun;cases vs<;>simp[AJ] at hs
 ·split at hc
  ·rename_i ts hts
   split at hc
   ·obtain⟨az,h1,rfl,h3⟩:=mk0 hc;exact ZH hi hx.kd hx.nt (ne:=false) rfl hop hts h1 h3 hrun
   ·obtain⟨az,h1,rfl,h3⟩:=mk0 hc;exact ZH hi hx.kd hx.nt (ne:=true) rfl hop hts h1 h3 hrun
   ·obtain⟨az,h1,rfl,h3⟩:=mk0 hc;obtain⟨vs,rs,_,hs,_,_⟩:=Gr rfl hrun;cases vs<;>simp[AJ] at hs
  ·obtain⟨az,h1,rfl,h3⟩:=mk0 hc;obtain⟨vs,rs,_,hs,_,_⟩:=Gr rfl hrun;cases vs<;>simp[AJ] at hs
theorem YE(hi:Inv cx G a w A σ)(hx:Dp cx fi){s t:TypeId}{x:Operand}(hop:o.op=.convert s t x)(hc:BU P pur fi rg o=some ao)(hrun:BV pur call ao A σ=some (A',σ')):Gives P cx o a w A' σ':=by
 simp only[BU,hop] at hc
 split at hc
 ·rename_i hs ht;obtain⟨az,h1,rfl,h3⟩:=mk0 hc;exact oF hi hx.kd hx.nt hop hs ht h1 h3 hrun
 ·rename_i e hs ht
  split at hc
  ·rename_i he hcell;obtain⟨az,h1,rfl,h3⟩:=mk0 hc;exact oH hi hx.kd hx.nt hop hs ht he h1 h3 hrun
  ·cases hc
 ·rename_i e' e hs ht
  split at hc
  ·rename_i u d he hd
   split at hc
   ·rename_i hst;rw[hd] at hc;obtain⟨az,h1,rfl,h3,h4,h5⟩:=mk1 hc;exact oG hi hx.kd hx.nt hop hst hd hs ht he h1 h3 h4 h5 hrun
   ·cases hc
  ·cases hc
 ·cases hc
theorem bL(hi:Inv cx G a w A σ)(hx:Dp cx fi){t:TypeId}{m:Operand}{k x:Operand}(hop:o.op=.insert t m k x)(hc:BU P pur fi rg o=some ao)(hrun:BV pur call ao A σ=some (A',σ')):Gives P cx o a w A' σ':=by
 cases m with
 |tmp m=>
  simp only[BU,hop] at hc
  split at hc
  ·rename_i kt et keys s ht hkm hps hd
   split at hc
   ·rename_i ik m' key hkt hks
    split at hc
    ·rename_i hcc;obtain⟨c1,rfl,c3,c4⟩:=hcc;obtain⟨az,h1,rfl⟩:=Ac.1 hc;exact ZC hi hx.kd hop hd ht hkt (.inl ⟨ik,rfl⟩) c1 (by rw[hx.kd];exact hkm) (by rw[hx.kd];exact hks) h1 hrun
    ·cases hc
   ·rename_i m' key hkt hks
    split at hc
    ·rename_i hcc;obtain⟨c1,rfl,c3,c4⟩:=hcc;obtain⟨az,h1,rfl⟩:=Ac.1 hc;exact ZC hi hx.kd hop hd ht hkt (.inr rfl) c1 (by rw[hx.kd];exact hkm) (by rw[hx.kd];exact hks) h1 hrun
    ·cases hc
   ·cases hc
  ·rename_i kt et ht hkm hd
   split at hc
   ·rename_i kd hkd;obtain⟨az,h1,rfl,h3⟩:=mk0 hc;rw[hd] at hrun;exact Zx hi hx.kd (.inr hop) hd ht hkd h1 hrun
   ·cases hc
  ·cases hc
 |_=>simp[BU,hop] at hc
theorem YD(hi:Inv cx G a w A σ)(hx:Dp cx fi){t:TypeId}{r:Option Operand}(hop:o.op=.makeMap t r)(hc:BU P pur fi rg o=some ao)(hrun:BV pur call ao A σ=some (A',σ')):Gives P cx o a w A' σ':=by
 cases r with
 |some r=>simp[BU,hop] at hc
 |none=>
  simp only[BU,hop] at hc
  split at hc
  ·rename_i s kt et hd ht
   split at hc
   ·split at hc
    ·rename_i kd z hkd hz;obtain⟨az,h1,rfl,h3⟩:=mk0 hc;cases h1;rw[hd] at h3 hrun;exact nT hi hx.kd hx.nt hop hd h3 hrun
    ·cases hc
   ·rename_i keys hk
    split at hc
    ·rename_i hlt;cases hc;rw[hd] at hrun;exact nR hi hx.kd hop hd (by rw[hx.nt];exact hlt) (by rw[hx.kd];exact hk) hrun
    ·cases hc
   ·cases hc
  ·cases hc
theorem bJ(hi:Inv cx G a w A σ)(hx:Dp cx fi){t:TypeId}{x i:Operand}{ok:Bool}(hop:o.op=.lookup t x i ok)(hc:BU P pur fi rg o=some ao)(hrun:BV pur call ao A σ=some (A',σ')):Gives P cx o a w A' σ':=by
 simp only[BU,hop] at hc
 split at hc
 ·split at hc
  ·rename_i kt et ht
   split at hc
   ·rename_i kd z hkt hz;obtain⟨az,h1,rfl,h3⟩:=mk0 hc;exact nX hi hx.kd hx.nt hop ht hkt hz h1 h3 hrun
   ·cases hc
  ·cases hc
 split at hc
 ·rename_i kt et ht
  split at hc
  ·rename_i ik z hkt hz;obtain⟨az,h1,rfl,h3⟩:=mk0 hc;exact We hi hx.kd hx.nt hop ht hkt (.inl ⟨ik,rfl⟩) hz h1 h3 hrun
  ·rename_i z hkt hz;obtain⟨az,h1,rfl,h3⟩:=mk0 hc;exact We hi hx.kd hx.nt hop ht hkt (.inr rfl) hz h1 h3 hrun
  ·cases hc
 ·cases hc
theorem pK(hi:Inv cx G a w A σ)(hx:Dp cx fi){t:TypeId}{x:Operand}{k1 k2:IntKind}{p q:Int}(hop:o.op=.slice t x none (some (.const (.int k1 p))) (some (.const (.int k2 q))))(hc:BU P pur fi rg o=some ao)(hrun:BV pur call ao A σ=some (A',σ')):Gives P cx o a w A' σ':=by
 simp only[BU,hop] at hc
 split at hc
 case isFalse=>cases hc
 rename_i hpq;obtain⟨rfl,rfl⟩:=hpq
 split at hc
 ·rename_i e ht
  split at hc
  ·rename_i ag hcell;obtain⟨az,h1,rfl,h3⟩:=mk0 hc;exact gF hi hx.kd hx.nt hop ht hcell h1 h3 hrun
  ·cases hc
 ·cases hc
theorem UY(hi:Inv cx G a w A σ)(hx:Dp cx fi){t:TypeId}{l c:Operand}(hop:o.op=.makeSlice t l c)(hc:BU P pur fi rg o=some ao)(hrun:BV pur call ao A σ=some (A',σ')):Gives P cx o a w A' σ':=by
 simp only[BU,hop] at hc
 split at hc
 ·rename_i e d ht hd
  split at hc
  ·rename_i it z hit hz
   split at hc
   ·rename_i hcc;rw[hd] at hc
    split at hc
    ·obtain⟨az,h1,rfl,h3⟩:=mk0 hc;exact nP hi hx.kd hx.nt hop hd ht hit hz hcc.1 hcc.2.1 hcc.2.2 h1 h3 hrun
    obtain⟨az,h1,rfl,h3⟩:=mk0 hc;exact nQ hi hx.kd hx.nt hop hd ht hit hz hcc.1 hcc.2.1 hcc.2.2 h1 h3 hrun
   ·cases hc
  ·cases hc
 ·cases hc
theorem jh(hi:Inv cx G a w A σ)(hx:Dp cx fi){t:TypeId}{x:Operand}{lo hi' mx:Option Operand}(hop:o.op=.slice t x lo hi' mx)(hc:BU P pur fi rg o=some ao)(hrun:BV pur call ao A σ=some (A',σ')):Gives P cx o a w A' σ':=by
 cases mx with
 |some mx=>
  have hbad:∃k1 p k2 q,lo=none∧hi'=some (.const (.int k1 p))∧mx=.const (.int k2 q):=by
   simp only[BU,hop] at hc
   split at hc<;>simp_all
  obtain⟨k1,p,k2,q,rfl,rfl,rfl⟩:=hbad;exact pK hi hx hop hc hrun
 |none=>
  simp only[BU,hop] at hc
  split at hc
  ·rename_i ht
   split at hc
   ·rename_i az hcs;obtain⟨as',h1,rfl,h3⟩:=mk0 hc;cases h1;exact nK hi hx.kd hx.nt hop ht hcs h3 hrun
   ·cases hc
  ·rename_i e ht
   split at hc
   ·rename_i size ag az hcell hcs
    split at hc
    ·obtain⟨as',h1,rfl,h3⟩:=mk0 hc;cases h1;exact nD hi hx.kd hx.nt hop ht hcell hcs h3 hrun
    ·cases hc
   ·cases hc
  ·cases hc
theorem ZE(hi:Inv cx G a w A σ)(hx:Dp cx fi){t:TypeId}{s u f:Nat}(hop:o.op=.fieldAddr t (.tmp s) f)(hd:o.dst=some u)
  {fs:Array Field} {fl:Field} (hs:P.underlying t=some (.struct fs)) (hf:fs[f]?=some fl) {n:Nat} {ag:Bool} (hn:Ci P fl.type=some (n,ag)) (hn0:n≠0) (hlt:¬fi.nt≤s) (hnb:fi.kind s≠.box)
  (hal:∀b,fi.alias s=some b→fi.alias u=some b) (hpd:CJ fi u=true) (hrun:BV pur call { dst:=some u,k:=.p (.fa fl.offset n ag),args:=[.slot s] } A σ=some (A',σ')):Gives P cx o a w A' σ':=by
 by_cases hl:∃d' off,A.get s=some (.lref d' off)
 ·obtain⟨d',off,hg⟩:=hl;have hal1:=(Mr hi hg).2.1;rw[hx.al] at hal1;exact gD hi hx.kd hx.nt hx.al hop hd hs hf hn hn0 hal1 (hal _ hal1) hpd hg hrun
 ·have hval:(fi.kind s).val=true:=by
   obtain⟨vs,rs,he,hsem,_,_⟩:=Gr rfl hrun;obtain⟨p,qs,rfl,hp,hq⟩:=Au he;cases hq;obtain⟨hg,_⟩:=Dr hp;have hsl:=hi.slot s p hg;rw[←hx.kd];cases hk:cx.kd s with
   |box=>exact absurd (by rw[←hx.kd];exact hk) hnb
   |mapb keys=>
    have:=((Gj hk).1 hsl).1;subst this;simp[AJ,faV] at hsem
   |ent m key=>
    obtain⟨_,_,_,_,rfl,_⟩:=(GK hk).1 hsl;simp[AJ,faV] at hsem
   |_=>rfl
  refine tu hi hx.kd hx.nt hop hs hf hn hn0 ?_ (OZ hlt hval) (by rw[hd];exact hpd) (by rw[hd];exact hrun)
  rintro p d off rfl y hy he
  have:=OZ hlt hval;simp only[Aq,hy] at this;cases this;exact hl ⟨d,off,(Dr he).1⟩
theorem U0(hi:Inv cx G a w A σ)(hx:Dp cx fi){t:TypeId}{x:Operand}{f:Nat}(hop:o.op=.fieldAddr t x f)(hc:BU P pur fi rg o=some ao)(hrun:BV pur call ao A σ=some (A',σ')):Gives P cx o a w A' σ':=by
 simp only[BU,hop] at hc
 split at hc
 ·rename_i fs ht
  split at hc
  ·rename_i fl hf
   split at hc
   ·rename_i n ag hcell
    split at hc
    ·cases hc
    ·rename_i hn0
     split at hc
     ·rename_i s u hd
      split at hc
      ·cases hc
      ·rename_i hlt
       split at hc
       ·rename_i hk
        split at hc
        ·rename_i hal;obtain⟨az,h1,rfl,h3⟩:=mk0 hc;cases h1;rw[hd] at h3 hrun;exact oq hi hx.kd hx.nt hx.al hop hd ht hf hcell hn0 (by rw[hx.kd];exact hk) hal h3 hrun
        ·cases hc
       ·rename_i hnb
        split at hc
        ·rename_i b hal
         split at hc
         ·rename_i hcc;obtain⟨az,h1,rfl,h3⟩:=mk0 hc;cases h1;rw[hd] at h3 hrun;exact ZE hi hx hop hd ht hf hcell hn0 hlt hnb (fun b' hb'=>by rw[hal] at hb';cases hb';exact hcc.1) h3 hrun
         ·cases hc
        ·rename_i hal;obtain⟨az,h1,rfl,h3⟩:=mk0 hc;cases h1;rw[hd] at h3 hrun;exact ZE hi hx hop hd ht hf hcell hn0 hlt hnb (fun b' hb'=>by rw[hal] at hb';cases hb') h3 hrun
     ·cases hc
   ·cases hc
  ·cases hc
 ·cases hc
theorem Wh(hi:Inv cx G a w A σ)(hx:Dp cx fi){t e:TypeId}{s u:Nat}{i:Operand}(hop:o.op=.indexAddr t (.tmp s) i)(hd:o.dst=some u)
  {n:Nat} (ht:P.underlying t=some (.array n e)) {size:Nat} {ag:Bool} (hsz:Ci P e=some (size,ag)) (hlt:¬fi.nt≤s) (hnb:fi.kind s≠.box)
  (hal:∀b,fi.alias s=some b→fi.alias u=some b) (hpd:CJ fi u=true) {az:List Ct} (hc:Aq fi [i]=some az) (hrun:BV pur call { dst:=some u,k:=.p (.ixa n size ag),args:=.slot s::az } A σ=some (A',σ')):Gives P cx o a w A' σ':=by
 by_cases hl:∃d' off,A.get s=some (.lref d' off)
 ·obtain⟨d',off,hg⟩:=hl;have hal1:=(Mr hi hg).2.1;rw[hx.al] at hal1;exact gB hi hx.kd hx.nt hx.al hop hd ht hsz hal1 (hal _ hal1) hpd hg hc hrun
 ·have hval:(fi.kind s).val=true:=by
   obtain⟨vs,rs,he,hsem,_,_⟩:=Gr rfl hrun;obtain⟨p,qs,rfl,hp,hq⟩:=Au he;obtain⟨y,zs,rfl,hy,hz⟩:=AL hc;cases hz;obtain⟨q,qs,rfl,hp2,hq⟩:=Au hq;cases hq;obtain⟨hg,_⟩:=Dr hp;have hsl:=hi.slot s p hg;rw[←hx.kd];have hno:∀p,ixV n size ag p q=none→AJ (.ixa n size ag) [p,q]=none:=fun p h=>by simp only[AJ,h];rfl
   cases hk:cx.kd s with
   |box=>exact absurd (by rw[←hx.kd];exact hk) hnb
   |mapb keys=>
    have:=((Gj hk).1 hsl).1;subst this;rw[hno _ (by unfold ixV;split<;>first | rfl | (split<;>rfl))] at hsem;cases hsem
   |ent m key=>
    obtain⟨_,_,_,_,rfl,_⟩:=(GK hk).1 hsl;rw[hno _ (by unfold ixV;split<;>first | rfl | (split<;>rfl))] at hsem;cases hsem
   |_=>rfl
  have hcs:=OZ hlt hval
  have hc2:Aq fi [.tmp s,i]=some (.slot s::az):=by
   simp only[Aq] at hcs hc ⊢
   split at hcs
   ·rename_i y1 ys1 q1 q2;cases hcs;rw[q1]
    split at hc
    ·rename_i y2 ys2 q3 q4;cases hc;cases q4;rfl
    ·cases hc
   ·cases hcs
  refine oh hi hx.kd hx.nt hop ht hsz ?_ hc2 (by rw[hd];exact hpd) (by rw[hd];exact hrun)
  rintro p d off rfl y hy he
  simp only[Aq,hy] at hcs;cases hcs;exact hl ⟨d,off,(Dr he).1⟩
theorem UZ(hi:Inv cx G a w A σ)(hx:Dp cx fi){t:TypeId}{x i:Operand}(hop:o.op=.indexAddr t x i)(hc:BU P pur fi rg o=some ao)(hrun:BV pur call ao A σ=some (A',σ')):Gives P cx o a w A' σ':=by
 simp only[BU,hop] at hc
 split at hc
 ·rename_i e ht
  split at hc
  ·rename_i size ag hcell
   split at hc
   ·obtain⟨az,h1,rfl,h3⟩:=mk0 hc;exact ol hi hx.kd hx.nt hop ht hcell h1 h3 hrun
   ·cases hc
  ·cases hc
 ·rename_i n e ht
  split at hc
  ·rename_i size ag hcell
   split at hc
   ·cases hc
   ·split at hc
    ·rename_i s u hd
     split at hc
     ·cases hc
     ·rename_i hlt
      split at hc
      ·rename_i hk
       split at hc
       ·rename_i hal;obtain⟨az,h1,rfl,h3⟩:=mk0 hc;obtain⟨as',h1',rfl⟩:=Ac.1 h1;rw[hd] at h3 hrun;exact og hi hx.kd hx.nt hx.al hop hd ht hcell (by rw[hx.kd];exact hk) hal h3 h1' hrun
       ·cases hc
      ·rename_i hnb
       split at hc
       ·rename_i b hal
        split at hc
        ·rename_i hcc;obtain⟨az,h1,rfl,h3⟩:=mk0 hc;obtain⟨as',h1',rfl⟩:=Ac.1 h1;rw[hd] at h3 hrun;exact Wh hi hx hop hd ht hcell hlt hnb (fun b' hb'=>by rw[hal] at hb';cases hb';exact hcc.1) h3 h1' hrun
        ·cases hc
       ·rename_i hal;obtain⟨az,h1,rfl,h3⟩:=mk0 hc;obtain⟨as',h1',rfl⟩:=Ac.1 h1;rw[hd] at h3 hrun;exact Wh hi hx hop hd ht hcell hlt hnb (fun b' hb'=>by rw[hal] at hb';cases hb') h3 h1' hrun
    ·cases hc
  ·cases hc
 ·cases hc
theorem pM{ro:Option Nat}{n:Nat}{K:Act→World→Prop}{Q:Exit→Act→World→Prop}(hS:EW P call)(hi:Inv cx G a w A σ)(hx:Dp cx fi){c:Call}(hop:o.op=.call c)(hc:BU P pur fi rg o=some ao)
  (hrun:BV pur call ao A σ=some (A',σ')) (hk:∀a' w',Sim cx a' w' A' σ'→Kept o.dst a a'→K a' w'):o.wpIn (FW ro) n P a w K Q:=by
 have hnd:∀c',o.op≠.defer c':=by simp[hop]
 simp only[BU,hop] at hc
 split at hc
 ·rename_i f hcal
  split at hc
  ·obtain⟨az,h1,rfl,h3⟩:=mk0 hc;exact wF hS hi hx.kd hx.nt hop hcal h1 h3 hrun hk
  split at hc
  ·rename_i hm;obtain⟨d,hd⟩:=CW.1 hm.2;obtain⟨az,h1,rfl,h3⟩:=mk0 hc;exact aZ hS hi hx.kd hx.nt hop hcal hd h1 h3 hrun hk
  ·obtain⟨az,h1,rfl,h3⟩:=mk0 hc;exact gH hS hi hx.kd hx.nt hop hcal h1 h3 hrun hk
 ·rename_i x _ hcal;obtain⟨az,h1,rfl,h3⟩:=mk0 hc;exact bf hS hi hx.kd hx.nt hop hcal h1 h3 hrun hk
 ·rename_i hcal
  split at hc
  ·rename_i ht;obtain⟨az,h1,rfl,h3⟩:=mk0 hc;exact(ZA hi hx.kd hx.nt hop hcal (.inl ⟨rfl,ht⟩) h1 h3 hrun).wp hnd hk
  ·rename_i e ht;obtain⟨az,h1,rfl,h3⟩:=mk0 hc;exact(ZA hi hx.kd hx.nt hop hcal (.inr ⟨rfl,e,ht⟩) h1 h3 hrun).wp hnd hk
  ·rename_i kt et ht;obtain⟨az,h1,rfl,h3⟩:=mk0 hc;exact(nW hi hx.kd hx.nt hop hcal ht h1 h3 hrun).wp hnd hk
  ·cases hc
 ·rename_i hcal
  split at hc
  ·rename_i e ht;obtain⟨az,h1,rfl,h3⟩:=mk0 hc;exact(gG hi hx.kd hx.nt hop hcal ⟨e,ht⟩ h1 h3 hrun).wp hnd hk
  ·cases hc
 ·rename_i hcal
  split at hc
  ·split at hc
   ·rename_i s x y z d htys hargs hd;have htys':c.argTypes=#[s,x]:=by apply BZ.1;exact htys
    have hargs':c.args=#[y,z]:=by apply BZ.1;exact hargs
    split at hc
    ·rename_i e e' hs hxx
     split at hc
     ·rename_i it hit
      split at hc
      ·rename_i hcc;rw[hd] at hc;obtain⟨az,h1,rfl,h3⟩:=mk0 hc;exact(gJ hi hx.kd hx.nt hop hcal hargs' htys' hd hs ⟨e',hxx⟩ hit hcc.1 hcc.2.1 hcc.2.2 h1 h3 hrun).wp hnd hk
      ·cases hc
     ·cases hc
    ·rename_i e k' hs hxx
     split at hc
     ·rename_i it zp hit hz
      split at hc
      ·rename_i hcc;rw[hd] at hc;obtain⟨az,h1,rfl,h3⟩:=mk0 hc;exact(gI hi hx.kd hx.nt hop hcal hargs' htys' hd hs hxx hit hz hcc.1 hcc.2.1 hcc.2.2 h1 h3 hrun).wp hnd hk
      ·cases hc
     ·cases hc
    ·cases hc
   ·cases hc
  split at hc
  ·rename_i s x u y d htys hargs hd;have htys':c.argTypes=#[s,x]:=by apply BZ.1;exact htys
   have hargs':c.args=#[.tmp u,y]:=by apply BZ.1;exact hargs
   split at hc
   ·rename_i e e' hs hxx
    split at hc
    ·rename_i it hit
     split at hc
     ·rename_i hcc;rw[hd] at hc;obtain⟨az,h1,rfl,h3,h4,h5⟩:=mk1 hc;exact(ZF hi hx.kd hx.nt hop hcal hargs' htys' hd hs (.inl ⟨e',hxx⟩) hit hcc.1 hcc.2.1 hcc.2.2 h1 h3 h4 h5 hrun).wp hnd hk
     ·cases hc
    ·cases hc
   ·rename_i e hs hxx
    split at hc
    ·rename_i it hit
     split at hc
     ·rename_i hcc;rw[hd] at hc;obtain⟨az,h1,rfl,h3,h4,h5⟩:=mk1 hc;exact(ZF hi hx.kd hx.nt hop hcal hargs' htys' hd hs (.inr hxx) hit (by omega) hcc.2.1 hcc.2.2 h1 h3 h4 h5 hrun).wp hnd hk
     ·cases hc
    ·cases hc
   ·cases hc
  ·cases hc
 ·rename_i hcal
  split at hc
  ·obtain⟨az,h1,rfl,h3⟩:=mk0 hc;exact(nU hi hx.kd hx.nt hop hcal h1 h3 hrun).wp hnd hk
  ·cases hc
 ·rename_i hcal
  split at hc
  ·obtain⟨az,h1,rfl,h3⟩:=mk0 hc;exact(nV hi hx.kd hx.nt hop hcal h1 h3 hrun).wp hnd hk
  ·cases hc
 ·cases hc
theorem jg{ro:Option Nat}{n:Nat}{K:Act→World→Prop}{Q:Exit→Act→World→Prop}(hS:EW P call)(hi:Inv cx G a w A σ)(hx:Dp cx fi)(hc:BU P pur fi rg o=some ao)
  (hrun:BV pur call ao A σ=some (A',σ')) (hk:∀a' w',Sim cx a' w' A' σ'→Kept o.dst a a'→K a' w'):o.wpIn (FW ro) n P a w K Q:=by
 have gv:Gives P cx o a w A' σ'→(∀c',o.op≠.defer c')→o.wpIn (FW ro) n P a w K Q:=fun h hd=>h.wp hd hk
 cases hop:o.op with
 |move x=>exact gv (pI hi hx hop hc hrun) (by simp[hop])
 |assign x=>exact gv (bM hi hx hop hc hrun) (by simp[hop])
 |pick c x y=>
  refine gv ?_ (by simp[hop])
  simp only[BU,hop] at hc;obtain⟨az,h1,rfl,h3⟩:=mk0 hc;exact fZ hi hx.kd hx.nt hop h1 h3 hrun
 |box t x=>exact gv (uq hi hx hop hc hrun) (by simp[hop])
 |alloc t=>exact gv (jm hi hx hop hc hrun) (by simp[hop])
 |build t ps=>exact gv (jk hi hx hop hc hrun) (by simp[hop])
 |buildSlice t n ps=>exact gv (Tp hi hx hop hc hrun) (by simp[hop])
 |load t x=>exact gv (pJ hi hx hop hc hrun) (by simp[hop])
 |store t x y=>exact gv (jf hi hx hop hc hrun) (by simp[hop])
 |nilCheck x=>
  refine gv ?_ (by simp[hop])
  simp only[BU,hop] at hc;obtain⟨az,h1,rfl,h3⟩:=mk0 hc;exact oI hi hx.kd hx.nt hop h1 h3 hrun
 |binOp op t x y yt=>exact gv (jl hi hx hop hc hrun) (by simp[hop])
 |unOp op t x=>
  refine gv ?_ (by simp[hop])
  cases op with
  |not=>
   simp only[BU,hop] at hc;obtain⟨az,h1,rfl,h3⟩:=mk0 hc;exact nN hi hx.kd hx.nt hop h1 h3 hrun
  |_=>simp[BU,hop] at hc
 |convert s t x=>exact gv (YE hi hx hop hc hrun) (by simp[hop])
 |makeFunc fn first cap=>
  refine gv ?_ (by simp[hop])
  cases fn with
  |func f=>
   simp only[BU,hop] at hc;obtain⟨az,h1,rfl,h3⟩:=mk0 hc;exact nS hi hx.kd hx.nt hop h1 h3 hrun
  |_=>simp[BU,hop] at hc
 |makeMap t r=>exact gv (YD hi hx hop hc hrun) (by simp[hop])
 |makeSlice t l c=>exact gv (UY hi hx hop hc hrun) (by simp[hop])
 |insert t m k x=>exact gv (bL hi hx hop hc hrun) (by simp[hop])
 |lookup t x i ok=>exact gv (bJ hi hx hop hc hrun) (by simp[hop])
 |mapUpdate t m k x=>
  refine gv ?_ (by simp[hop])
  simp only[BU,hop] at hc
  split at hc
  ·rename_i kt et ht
   split at hc
   ·rename_i kd hkt hd;obtain⟨az,h1,rfl,h3⟩:=mk0 hc;rw[hd] at hrun;exact Zx hi hx.kd (.inl hop) hd ht hkt h1 hrun
   ·cases hc
  ·cases hc
 |mapEntry t m k=>
  refine gv ?_ (by simp[hop])
  simp only[BU,hop] at hc
  split at hc
  ·rename_i kt et ht
   split at hc
   ·rename_i kd z hkt hz;obtain⟨az,h1,rfl,h3⟩:=mk0 hc;exact oz hi hx.kd hx.nt hop ht hkt hz h1 h3 hrun
   ·cases hc
  ·cases hc
 |entryStore t m i x=>
  refine gv ?_ (by simp[hop])
  simp only[BU,hop] at hc
  split at hc
  ·rename_i hd;obtain⟨az,h1,rfl,h3⟩:=mk0 hc;rw[hd] at hrun;exact ow hi hx.kd hop hd h1 hrun
  ·cases hc
 |indexAddr t x i=>exact gv (UZ hi hx hop hc hrun) (by simp[hop])
 |index t x i=>
  refine gv ?_ (by simp[hop])
  simp only[BU,hop] at hc
  split at hc
  ·rename_i ht;obtain⟨az,h1,rfl,h3⟩:=mk0 hc;exact fV hi hx.kd hx.nt hop ht h1 h3 hrun
  ·cases hc
 |slice t x lo hi' mx=>exact gv (jh hi hx hop hc hrun) (by simp[hop])
 |fieldAddr t x f=>exact gv (U0 hi hx hop hc hrun) (by simp[hop])
 |field t x f=>
  refine gv ?_ (by simp[hop])
  simp only[BU,hop] at hc
  split at hc
  ·rename_i fs hs
   split at hc
   ·rename_i fl hf
    split at hc
    ·rename_i n ag hn;obtain⟨az,h1,rfl,h3⟩:=mk0 hc;exact oo hi hx.kd hx.nt hop hs hf hn h1 h3 hrun
    ·cases hc
   ·cases hc
  ·cases hc
 |extract x i=>
  refine gv ?_ (by simp[hop])
  simp only[BU,hop] at hc;obtain⟨az,h1,rfl,h3⟩:=mk0 hc;exact ou hi hx.kd hx.nt hop h1 h3 hrun
 |call c=>exact pM hS hi hx hop hc hrun hk
 |range t x=>
  refine gv ?_ (by simp[hop])
  simp only[BU,hop] at hc
  split at hc
  ·rename_i kt et d ht hd;rw[hd] at hc;obtain⟨az,h1,rfl,h3⟩:=mk0 hc;exact nL hi hx.kd hx.nt hop ht hd h3 h1 hrun
  ·cases hc
 |next x b=>
  refine gv ?_ (by simp[hop])
  cases b with
  |false=>
   simp only[BU,hop] at hc;obtain⟨az,h1,rfl,h3⟩:=mk0 hc;exact nM hi hx.kd hx.nt hop h1 h3 hrun
  |true=>simp[BU,hop] at hc
 |entry x=>
  refine gv ?_ (by simp[hop])
  simp only[BU,hop] at hc;obtain⟨az,h1,rfl,h3⟩:=mk0 hc;exact oD hi hx.kd hx.nt hop h1 h3 hrun
 |panic x=>
  simp only[BU,hop] at hc;obtain⟨az,h1,rfl,h3⟩:=mk0 hc;obtain⟨vs,rs,_,hs,_,_⟩:=Gr rfl hrun;cases vs<;>simp[AJ] at hs
 |makeInterface t x=>
  simp only[BU,hop] at hc;obtain⟨az,h1,rfl,h3⟩:=mk0 hc;obtain⟨vs,rs,_,hs,_,_⟩:=Gr rfl hrun;cases vs<;>simp[AJ] at hs
 |_=>simp[BU,hop] at hc
end
end Go.Abs

namespace Go.Abs
open Go.RowKit
section
variable{P:Program}{pur:FuncId→Bool}{call:Caller}{fi:FI}{cx:Cx}{G:Gh}{a:Act}{w:World}{A A':Frm}{σ σ':Sto}{rg:RG}{o:Oper}{ao:AOp}{ops:Array Oper}
theorem uC{d:Option Nat}{k:AK}{args:Option (List Ct)}{ex:List Nat}(h:mk fi d k args ex=some ao):ao.dst=d:=by
 obtain⟨az,_,rfl,_⟩:=Qm h;rfl
theorem Zb(h:BU P pur fi rg o=some ao):ao.dst=o.dst:=by
 unfold BU at h;dsimp only at h
 repeat' (split at h)
 all_goals first
  |(cases h;done)
  |exact uC h
  |(cases h;rfl)
  |(cases h;simp_all;done)
  |(obtain⟨_,_,rfl⟩:=Ac.1 h;rfl)
  |(obtain⟨_,_,rfl⟩:=Ac.1 h;simp_all;done)
theorem Px(h:MC P pur fi rg o=some ao):ao.dst=o.dst:=by
 unfold MC at h
 split at h
 ·rename_i a hc;cases h;exact Zb hc
 ·cases h;rfl
theorem bI{ro:Option Nat}{n:Nat}{K:Act→World→Prop}{Q:Exit→Act→World→Prop}(hS:EW P call)(hi:Inv cx G a w A σ)(hx:Dp cx fi)(hc:MC P pur fi rg o=some ao)
  (hrun:BV pur call ao A σ=some (A',σ')) (hk:∀a' w',Sim cx a' w' A' σ'→Kept o.dst a a'→K a' w'):o.wpIn (FW ro) n P a w K Q:=by
 unfold MC at hc
 split at hc
 ·rename_i a' hc';cases hc;exact jg hS hi hx hc' hrun hk
 ·cases hc;obtain⟨vs,rs,_,hs,_⟩:=Hl hrun;cases vs<;>simp[sem,AJ] at hs
def mV(P:Program)(pur:FuncId→Bool)(fi:FI)(ops:Array Oper)(o:Oper)(ao:AOp):Prop:=
 ∃rg a,MC P pur fi rg o=some a∧J7 fi ops o.guard=some ao.guard∧ao={ a with guard:=ao.guard }∧(ao.guard.isSome=true→a.ex=[]∧a.clr=[]∧BA fi a.dst=true)
theorem JO{id:Nat}{rg:RG}:∀(l:List Oper) (j:Nat) (az:List AOp),N7 P pur fi id rg ops j l=some az→
  az.length=l.length∧∀(i:Nat) (o:Oper) (ao:AOp),l[i]?=some o→az[i]?=some ao→mV P pur fi ops o ao
 |[],j,az,h=>by cases h;exact⟨rfl,fun i o ao h=>by simp at h⟩
 |o::l,j,az,h=>by
  simp only[N7] at h
  split at h
  ·rename_i a g as' h1 h2 h3
   split at h
   ·cases h
   ·rename_i hc;cases h;obtain⟨hl,hr⟩:=JO l (j+1) as' h3;refine⟨by simp[hl],fun i o' ao' ho ha=>?_⟩
    cases i with
    |zero=>
     simp at ho ha;subst ho ha;refine⟨_,a,h1,h2,rfl,fun hg=>?_⟩
     have hc':¬(a.ex≠[]∨a.clr≠[]∨BA fi a.dst=false):=fun h=>hc ⟨hg,h⟩
     simp only[not_or,ne_eq,Classical.not_not,Bool.not_eq_false] at hc';exact hc'
    |succ i=>exact hr i o' ao' (by simpa using ho) (by simpa using ha)
  ·cases h
theorem Tw(hi:Inv cx G a w A σ)(hx:Dp cx fi){g:Option (Nat×Bool)}(hg:J7 fi ops o.guard=some g){b:Bool}(hw:FK A g=some b):Region.wanted o (yielded ops a.tmps)=b:=by
 unfold Region.wanted;cases hgu:o.guard with
 |none=>
  rw[hgu] at hg;simp only[J7] at hg;cases hg;simp only[FK] at hw;cases hw;rfl
 |some jb=>
  obtain⟨j,want⟩:=jb;rw[hgu] at hg;simp only[J7] at hg
  split at hg
  ·rename_i t ht
   split at hg
   ·rename_i hp;cases hg;have hpl:=En hx.kd hx.nt hp;have hlt:t<a.tmps.size:=by rw[hi.size];exact hpl.1
    have hat:a.tmps[t]?=some (at' a t):=by simp[at',Array.getD,hlt]
    simp only[FK] at hw
    split at hw
    ·rename_i c hc;cases hw;have hv:=((BL hpl.2 rfl).1 (hi.slot t _ hc)).1.Ht;simp only[yielded,ht,Dn,hat,hv];cases c<;>cases want<;>rfl
    ·rename_i hc;cases hw;obtain⟨cs,hv,_⟩:=((BL hpl.2 rfl).1 (hi.slot t _ hc)).1.Ot;simp only[yielded,ht,Dn,hat,hv];rfl
    ·cases hw
   ·cases hg
  ·cases hg
theorem aW{I:Imm}{bl:Bl}:Bu I bl w undef Iy:=by
 refine .tuple (cs:=#[]) rfl fun i p h=>by simp at h
theorem Si{ro:Option Nat}{n:Nat}{K:Act→World→Prop}{Q:Exit→Act→World→Prop}(hS:EW P call)(hx:Dp cx fi){i:Nat}(ho:ops[i]?=some o)(hok:mV P pur fi ops o ao)(hsim:Sim cx a w A σ)
  (hex:FU pur call ao A σ=some (A',σ')) (hk:∀a' w',Sim cx a' w' A' σ'→Kept o.dst a a'→K a' w'):wpOpIn (FW ro) n P ops Q i K a w:=by
 obtain⟨G,hi⟩:=hsim;obtain⟨rg,a0,hc,hg,he,hpl⟩:=hok;unfold wpOpIn;rw[ho];dsimp only;unfold FU at hex
 split at hex
 ·rename_i hw;rw[Tw hi hx hg hw,if_pos rfl];refine bI hS hi hx hc (pur:=pur) (A':=A') (σ':=σ') ?_ hk
  rw[he] at hex;exact hex
 ·rename_i hw;rw[Tw hi hx hg hw,if_neg (by simp)]
  refine⟨fun _ _=>trivial,hk _ _ ⟨G,?_⟩ (LD _ _ _)⟩
  have hgs:ao.guard.isSome=true:=by
   cases hgg:ao.guard with
   |none=>rw[hgg] at hw;simp[FK] at hw
   |some _=>rfl
  obtain⟨h1,h2,h3⟩:=hpl hgs
  split at hex
  ·cases hex
   have hdst:ao.dst=o.dst:=by
    have:=Px hc;rw[he];exact this
   have hex0:ao.ex=[]:=by rw[he];exact h1
   have hcl0:ao.clr=[]:=by rw[he];exact h2
   have hpd:BA fi o.dst=true:=by rw[←Px hc];exact h3
   have hA:CV A ao.wr [some Iy]=GA A o.dst Iy:=by
    simp only[AOp.wr,hex0,hcl0,hdst,BD];cases o.dst<;>rfl
   rw[hA];exact hi.JK (Ext.refl _ _ _) hi.base rfl o.dst (DC hx.kd hx.nt hpd) rfl aW (fun _ _=>trivial)
  ·cases hex
 ·cases hex
theorem Sj(h:FU pur call ao A σ=some (A',σ')):A'.length=A.length:=by
 unfold FU at h
 split at h
 ·unfold BV at h
  split at h
  ·split at h
   ·split at h
    ·cases h;exact DZ ..
    ·split at h
     ·cases h;rfl
     ·cases h
   ·cases h
  ·cases h
 ·split at h
  ·cases h;exact DZ ..
  ·cases h
 ·cases h
theorem LU:∀(az:List AOp) {A A':Frm} {σ σ':Sto},Gn pur call az A σ=some (A',σ')→A'.length=A.length
 |[],A,A',σ,σ',h=>by cases h;rfl
 |ao::az,A,A',σ,σ',h=>by
  simp only[Gn] at h
  split at h
  ·rename_i A1 σ1 h1;rw[LU az h,Sj h1]
  ·cases h
theorem TN{ro:Option Nat}{n:Nat}{Q:Exit→Act→World→Prop}(hS:EW P call)(hx:Dp cx fi){az:List AOp}(hl:az.length=ops.size)
  (hok:∀(i:Nat) (o:Oper) (ao:AOp),ops[i]?=some o→az[i]?=some ao→mV P pur fi ops o ao) {A':Frm} {σ':Sto} {S:Nat→Prop} (hsp:∀t,S t→∀(i:Nat) (o:Oper),ops[i]?=some o→o.dst≠some t) {a0:Act} (hq:∀a' w',Sim cx a' w' A' σ'→(∀t,S t→at' a' t=at' a0 t)→Q .normal a' w') :
  ∀(d k:Nat),k+d=ops.size→∀(A:Frm) (σ:Sto),Gn pur call (az.drop k) A σ=some (A',σ')→∀a w,Sim cx a w A σ→(∀t,S t→at' a t=at' a0 t)→wpOpsIn (FW ro) n P ops Q (List.range' k d) a w:=by
 intro d
 induction d with
 |zero=>
  intro k hk A σ hex a w hs hf;rw[Cv (by omega)] at hex
  cases hex;exact hq a w hs hf
 |succ d ih=>
  intro k hk A σ hex a w hs hf;have hlt:k<az.length:=by omega
  rw[BB hlt] at hex;simp only[Gn] at hex
  split at hex
  ·rename_i A1 σ1 h1;rw[Eo,wpOpsIn_cons];have ho:ops[k]?=some ops[k]:=Az (by omega)
   exact Si hS hx ho (hok k _ _ ho (Ad hlt)) hs h1 (fun a' w' hs' hk'=>ih (k+1) (by omega) A1 σ1 hex a' w' hs' fun t ht=>(hk' t (hsp t ht k _ ho)).trans (hf t ht))
  ·cases hex
end
end Go.Abs

namespace Go.Abs
mutual
theorem UW:∀{a b:PV},peq a b=true→a=b
 |.bool x0,b,h=>by
  cases b<;>first | (simp[peq] at h;done) | skip
  simp[peq] at h;simp[h]
 |.int x0 x1,b,h=>by
  cases b<;>first | (simp[peq] at h;done) | skip
  simp[peq] at h;simp[h]
 |.str x0,b,h=>by
  cases b<;>first | (simp[peq] at h;done) | skip
  simp[peq] at h;simp[h]
 |.nilp,b,h=>by
  cases b<;>first | (simp[peq] at h;done) | skip
  rfl
 |.vptr x0,b,h=>by
  cases b<;>first | (simp[peq] at h;done) | skip
  simp only[peq] at h;rw[UW h]
 |.ref x0 x1,b,h=>by
  cases b<;>first | (simp[peq] at h;done) | skip
  simp[peq] at h;simp[h]
 |.nils,b,h=>by
  cases b<;>first | (simp[peq] at h;done) | skip
  rfl
 |.slice x0 x1 x2,b,h=>by
  cases b<;>first | (simp[peq] at h;done) | skip
  simp only[peq,Ak] at h;obtain⟨h1,h2,h3⟩:=h;have h1:=eq_of_beq h1;have h2:=AU h2;rw[h1,h2,IU h3]
 |.nili,b,h=>by
  cases b<;>first | (simp[peq] at h;done) | skip
  rfl
 |.self,b,h=>by
  cases b<;>first | (simp[peq] at h;done) | skip
  rfl
 |.dead,b,h=>by
  cases b<;>first | (simp[peq] at h;done) | skip
  rfl
 |.nilm,b,h=>by
  cases b<;>first | (simp[peq] at h;done) | skip
  rfl
 |.mapb,b,h=>by
  cases b<;>first | (simp[peq] at h;done) | skip
  rfl
 |.nilf,b,h=>by
  cases b<;>first | (simp[peq] at h;done) | skip
  rfl
 |.func x0 x1 x2,b,h=>by
  cases b<;>first | (simp[peq] at h;done) | skip
  simp only[peq,Ak] at h;obtain⟨h1,h2,h3⟩:=h;have h1:=AU h1;rw[h1,IU h2,IU h3]
 |.agg x0,b,h=>by
  cases b<;>first | (simp[peq] at h;done) | skip
  simp only[peq] at h;rw[IU h]
 |.tuple x0,b,h=>by
  cases b<;>first | (simp[peq] at h;done) | skip
  simp only[peq] at h;rw[IU h]
 |.arr x0 x1 x2 x3 x4,b,h=>by
  cases b<;>first | (simp[peq] at h;done) | skip
  simp[peq] at h;simp[h]
 |.aptr x0 x1 x2 x3 x4,b,h=>by
  cases b<;>first | (simp[peq] at h;done) | skip
  simp[peq] at h;simp[h]
 |.arrv x0 x1 x2,b,h=>by
  cases b<;>first | (simp[peq] at h;done) | skip
  simp only[peq,Ak] at h;obtain⟨h1,h2,h3⟩:=h;have h1:=AU h1;have h2:=AU h2;rw[h1,h2,IU h3]
 |.empt,b,h=>by
  cases b<;>first | (simp[peq] at h;done) | skip
  rfl
 |.aggr x0,b,h=>by
  cases b<;>first | (simp[peq] at h;done) | skip
  simp only[peq] at h;rw[IU h]
 |.mref x0,b,h=>by
  cases b<;>first | (simp[peq] at h;done) | skip
  simp[peq] at h;simp[h]
 |.mapo x0 x1 x2 x3,b,h=>by
  cases b<;>first | (simp[peq] at h;done) | skip
  simp only[peq,Ak,decide_eq_true_eq] at h;obtain⟨h1,h2,h3,h4⟩:=h;rw[h1,UW h2,h3,IU h4]
 |.itr x0 x1 x2,b,h=>by
  cases b<;>first | (simp[peq] at h;done) | skip
  simp[peq] at h;simp[h]
 |.lref _ _,b,h=>by cases b<;>simp[peq] at h
 |.hole _,b,h=>by cases b<;>simp[peq] at h
 |.bld _ _ _,b,h=>by cases b<;>simp[peq] at h
 |.mapv _ _,b,h=>by cases b<;>simp[peq] at h
 |.fresh _ _ _,b,h=>by cases b<;>simp[peq] at h
theorem IU:∀{a b:List PV},OD a b=true→a=b
 |[],[],_=>rfl
 |[],_::_,h=>by simp[OD] at h
 |_::_,[],h=>by simp[OD] at h
 |v::vs,v'::vs',h=>by
  simp only[OD,Ak] at h;rw[UW h.1,IU h.2]
end
theorem aR:∀{l l':List (Option PV)},K8 l l'=true→l=l'
 |[],[],_=>rfl
 |[],_::_,h=>by simp[K8] at h
 |some v::r,[],h=>by simp[K8] at h
 |none::r,l',h=>by simp[K8] at h
 |some v::r,none::r',h=>by simp[K8] at h
 |some v::r,some v'::r',h=>by
  simp only[K8,Ak] at h;rw[UW h.1,aR h.2]
theorem mI:∀{l l':Option (List (Option PV))},Oe l l'=true→l=l'
 |some l,some l',h=>by
  have h:K8 l l'=true:=h;rw[aR h]
 |none,_,h=>by simp[Oe] at h
 |some _,none,h=>by simp[Oe] at h
end Go.Abs

namespace Go.Abs
open Go.RowKit
def KZ(cs:List PV):List PV ⊕ (KD×PV×(Kx→PV)):=match mapOf (some cs) with
 |some (d,z,ks,vs)=>.inr (d,z,fun x=>(Gq x ks vs).getD z)
 |none=>.inl (cs.map PV.D8)
def Ya(σ τ:Sto):Prop:=σ.map KZ=τ.map KZ
theorem H5(d:KD)(z:PV)(ks:List Kx)(vs:List PV):KZ [.mapo d z ks vs]=.inr (d,z,fun x=>(Gq x ks vs).getD z):=rfl
theorem Im(cs:List PV):(mapOf (some cs)=none)∨∃d z ks vs,cs=[.mapo d z ks vs]:=by
 unfold mapOf;split
 ·rename_i h;cases h;exact .inr ⟨_,_,_,_,rfl⟩
 ·exact .inl rfl
theorem F8{cs:List PV}(h:mapOf (some cs)=none):KZ cs=.inl (cs.map PV.D8):=by
 unfold KZ;rw[h]
theorem WW{ds cs:List PV}(h:KZ ds=KZ cs):ds.map PV.D8=cs.map PV.D8∨∃d z ks vs ks' vs',ds=[.mapo d z ks vs]∧cs=[.mapo d z ks' vs']∧∀x,(Gq x ks vs).getD z=(Gq x ks' vs').getD z:=by
 rcases Im ds with h1 | ⟨d,z,ks,vs,rfl⟩
 ·rcases Im cs with h2 | ⟨d',z',ks',vs',rfl⟩
  ·rw[F8 h1,F8 h2] at h;exact .inl (by simpa using h)
  ·rw[F8 h1,H5] at h;cases h
 ·rcases Im cs with h2 | ⟨d',z',ks',vs',rfl⟩
  ·rw[F8 h2,H5] at h;cases h
  ·rw[H5,H5] at h;have h:=Sum.inr.inj h;simp only[Prod.mk.injEq] at h;obtain⟨rfl,rfl,h3⟩:=h;exact .inr ⟨_,_,_,_,_,_,rfl,rfl,fun x=>congrFun h3 x⟩
section
variable{P:Program}{pur:FuncId→Bool}{call:Caller}{fi:FI}{cx:Cx}{G:Gh}{a:Act}{w:World}{A A' B:Frm}{σ σ' τ:Sto}{rg:RG}{o:Oper}{ao:AOp}{ops:Array Oper}
theorem Fq:∀(ts:List Nat) (vs:List (Option PV)) (A:Frm) (t:Nat),t∉ts→(CV A ts vs).get t=A.get t
 |[],vs,A,t,_=>by cases vs<;>rfl
 |s::ts,[],A,t,_=>rfl
 |s::ts,v::vs,A,t,h=>by
  rw[CV,Fq ts vs _ t (fun h'=>h (Bw _ h')),C8,if_neg (fun h'=>h (by rw[h'.1];exact BG ..))]
theorem JJ:∀(ts:List Nat) (vs:List (Option PV)) (A B:Frm) (t:Nat),A.length=B.length→ts.length≤vs.length→t∈ts→(CV A ts vs).get t=(CV B ts vs).get t
 |[],vs,A,B,t,_,_,h=>by cases h
 |s::ts,[],A,B,t,_,h,_=>by simp at h
 |s::ts,v::vs,A,B,t,hl,hv,h=>by
  rw[CV,CV];by_cases ht:t∈ts
  ·exact JJ ts vs _ _ t (by simp[hl]) (by simpa using hv) ht
  ·rw[Fq ts vs _ t ht,Fq ts vs _ t ht,C8,C8]
   have hts:t=s:=by
    rcases Av.1 h with h | h
    ·exact h
    ·exact absurd h ht
   subst hts;by_cases hlt:t<A.length
   ·rw[if_pos ⟨rfl,hlt⟩,if_pos ⟨rfl,by omega⟩]
   ·rw[if_neg (fun h=>hlt h.2),if_neg (fun h=>hlt (by omega))]
    unfold Frm.get;rw[AC (by omega),AC (by omega)]
theorem Jk:∀(az:List Ct),(∀t∈Od az,B.get t=A.get t)→BJ B az=BJ A az
 |[],_=>rfl
 |.slot t::az,h=>by
  simp only[BJ];rw[h t (BG ..),Jk az (fun t' ht'=>h t' (Bw _ ht'))]
 |.val v::az,h=>by
  simp only[BJ];rw[Jk az (fun t' ht'=>h t' ht')]
theorem Tk(g:Option (Nat×Bool))(h:∀t b,g=some (t,b)→B.get t=A.get t):FK B g=FK A g:=by
 cases g with
 |none=>rfl
 |some x=>
  obtain⟨t,b⟩:=x;simp only[FK];rw[h t b rfl]
theorem Pp(x:PV):x.D8.isSelf=x.isSelf:=by cases x<;>rfl
theorem RD(x:PV):x.D8.isAgg=x.isAgg:=by cases x<;>rfl
theorem LV{x:PV}(h:x.isAgg=false):x.Ag=x.D8:=by cases x<;>first | rfl | (simp[PV.isAgg] at h)
theorem dx(x:PV):x.D8.flat=x.flat:=by cases x<;>rfl
theorem X5(l:List PV):(l.map PV.D8).all PV.flat=l.all PV.flat:=by
 rw[ET];congr 1;funext x;exact dx x
theorem S9(cs:List PV)(g s:Nat):Dq cs g s=Dq (cs.map PV.D8) g s:=by
 match cs with
 |[]=>rfl
 |[x]=>cases x<;>rfl
 |x::y::l=>cases x<;>rfl
theorem dR{cs ds:List PV}(h:ds.map PV.D8=cs.map PV.D8)(g s:Nat):Dq ds g s=Dq cs g s:=by rw[S9,h,←S9]
theorem dU{xs ys:List PV}(h:xs.map PV.D8=ys.map PV.D8):(Iu xs).map PV.Ag=(Iu ys).map PV.Ag:=by
 unfold Iu;rw[←X5 xs,h,X5,←Kz xs,h,Kz];split
 ·simp only[Ay,PV.Ag,Option.some.injEq,PV.agg.injEq];exact h
 ·split
  ·simp only[Ay,PV.Ag,Option.some.injEq,PV.aggr.injEq];exact h
  ·rfl
theorem fD{cs ds:List PV}(h:ds.map PV.D8=cs.map PV.D8)(off n:Nat)(ag:Bool):(K9 ds off n ag).map PV.Ag=(K9 cs off n ag).map PV.Ag:=by
 have hl:ds.length=cs.length:=by simpa using congrArg List.length h
 have hsl:((ds.drop off).take n).map PV.D8=((cs.drop off).take n).map PV.D8:=by
  rw[List.map_take,List.map_drop,List.map_take,List.map_drop,h]
 cases ag with
 |true=>
  simp only[K9,hl];split
  ·exact dU hsl
  ·rfl
 |false=>
  simp only[K9];have hg:=congrArg (fun l=>l[off]?) h
  simp only[Af] at hg;cases hd:ds[off]? with
  |none=>
   rw[hd] at hg;cases hc:cs[off]? with
   |none=>rfl
   |some y=>rw[hc] at hg;simp at hg
  |some x=>
   rw[hd] at hg;cases hc:cs[off]? with
   |none=>rw[hc] at hg;simp at hg
   |some y=>
    rw[hc] at hg;simp only[Ay,Option.some.injEq] at hg;have hag:x.isAgg=y.isAgg:=by rw[←RD x,hg,RD]
    have hse:x.isSelf=y.isSelf:=by rw[←Pp x,hg,Pp]
    dsimp only;rw[hag,hse];cases hy:y.isAgg with
    |true=>rfl
    |false=>
     cases hz:y.isSelf with
     |true=>rfl
     |false=>
      simp only[Bool.or_self,Bool.false_eq_true,if_false,Ay];rw[LV (by rw[hag];exact hy),LV hy,hg]
theorem Yf{ds cs:List PV}(h:KZ ds=KZ cs)(off n:Nat)(ag:Bool):(K9 ds off n ag).map PV.Ag=(K9 cs off n ag).map PV.Ag:=by
 rcases WW h with h | ⟨d,z,ks,vs,ks',vs',rfl,rfl,_⟩
 ·exact fD h off n ag
 ·cases ag with
  |true=>
   simp only[K9,List.length_singleton];by_cases ho:off+n≤1
   ·rcases off with _ | off
    ·rcases n with _ | n
     ·rfl
     ·obtain rfl:n=0:=by omega
      rfl
    ·obtain rfl:n=0:=by omega
     rfl
   ·rw[if_neg ho,if_neg ho]
  |false=>
   rcases off with _ | off
   ·rfl
   ·rfl
theorem X3{ds cs:List PV}(h:KZ ds=KZ cs)(g s:Nat):Dq ds g s=Dq cs g s:=by
 rcases WW h with h | ⟨d,z,ks,vs,ks',vs',rfl,rfl,_⟩
 ·exact dR h g s
 ·rfl
theorem kL{σ τ:Sto}(h:Ya τ σ)(id:Nat)(z k:PV)(d:KD):BR (.lkM z false d) [.mref id,k] τ=BR (.lkM z false d) [.mref id,k] σ:=by
 have hg:=congrArg (fun l=>l[id]?) h
 simp only[Af] at hg
 have one:∀(ρ:Sto),BR (.lkM z false d) [.mref id,k] ρ=match(ρ[id]?).map KZ,MJ d k with
   |some (.inr (d',z',f)),some x=>if d'=d∧O9 z z'=true then lkR false (f x) true else none
   |_,_=>none:=by
  intro ρ;simp only[BR];cases hρ:ρ[id]? with
  |none=>simp[mapOf]
  |some cs=>
   rcases Im cs with h1 | ⟨d',z',ks,vs,rfl⟩
   ·rw[h1,Ay,F8 h1]
   ·rw[Ay,H5]
    show(match some (d',z',ks,vs),MJ d k with
     |some (d',z',ks,vs),some x=>if d'=d∧O9 z z'=true then(match Gq x ks vs with | some v=>lkR false v true | none=>lkR false z' false) else none
     |_,_=>none)=_
    cases hk:MJ d k with
    |none=>rfl
    |some x=>
     dsimp only;split
     ·cases hl:Gq x ks vs with
      |some v=>rfl
      |none=>rfl
     ·rfl
 rw[one,one,hg]
theorem Yj{k:RK}{vs:List PV}(hw:isW (.r k)=true→τ=σ)(h:Ya τ σ):BR k vs τ=BR k vs σ:=by
 cases k with
 |ld n ag=>
  match vs with
  |[]=>rfl
  |x::y::l=>cases x<;>rfl
  |[x]=>
   cases x with
   |ref id off=>
    simp only[BR];have hg:=congrArg (fun l=>l[id]?) h
    simp only[Af] at hg;cases hd:τ[id]? with
    |none=>
     rw[hd] at hg;cases hc:σ[id]? with
     |none=>rfl
     |some y=>rw[hc] at hg;simp at hg
    |some ds=>
     rw[hd] at hg;cases hc:σ[id]? with
     |none=>rw[hc] at hg;simp at hg
     |some cs=>
      rw[hc] at hg;simp only[Ay,Option.some.injEq] at hg;have:=Yf hg off n ag;dsimp only;have e:∀s:Option PV,(s.map fun v=>[some v.Ag])=(s.map PV.Ag).map fun v=>[some v]:=fun s=>by cases s<;>rfl
      rw[e,e,this]
   |aptr id gen size i off=>
    simp only[BR];have hg:=congrArg (fun l=>l[id]?) h
    simp only[Af] at hg;cases hd:τ[id]? with
    |none=>
     rw[hd] at hg;cases hc:σ[id]? with
     |none=>rfl
     |some y=>rw[hc] at hg;simp at hg
    |some ds=>
     rw[hd] at hg;cases hc:σ[id]? with
     |none=>rw[hc] at hg;simp at hg
     |some cs=>
      rw[hc] at hg;simp only[Ay,Option.some.injEq] at hg;dsimp only;rw[X3 hg]
   |_=>rfl
 |lkM z ok d=>
  cases ok with
  |true=>rw[hw rfl]
  |false=>
   match vs with
   |[]=>rfl
   |[x]=>cases x<;>rfl
   |x::y::u::l=>cases x<;>rfl
   |[x,y]=>
    cases x with
    |mref id=>exact kL h id z y d
    |_=>rfl
 |lnM=>rw[hw rfl]
 |enI=>rw[hw rfl]
theorem TE{k:AK}{vs:List PV}{rs:List (Option PV)}(hW:isW k=true→τ=σ)(hE:∀k',k=.r k'→BR k' vs τ=BR k' vs σ)(h:sem pur call k vs σ=some (rs,σ')):
  ∃τ',sem pur call k vs τ=some (rs,τ')∧(isW k=true→τ'=σ')∧(isW k=false→τ'=τ):=by
 cases k with
 |p k=>
  simp only[sem] at h ⊢;obtain⟨rs',h1,e⟩:=Ac.1 h;cases e;exact⟨τ,by rw[h1];rfl,fun h=>by simp[isW] at h,fun _=>rfl⟩
 |r k=>
  simp only[sem] at h ⊢;obtain⟨rs',h1,e⟩:=Ac.1 h;cases e;exact⟨τ,by rw[hE k rfl,h1];rfl,fun h=>hW h,fun _=>rfl⟩
 |w k=>
  have:=hW rfl;subst this;exact⟨σ',h,fun _=>rfl,fun h=>by simp[isW] at h⟩
 |c f=>
  simp only[sem] at h ⊢
  split at h
  ·rename_i hf;rw[if_pos hf];obtain⟨⟨r,σ1⟩,h1,h2⟩:=AO.1 h;dsimp only at h2
   split at h2
   ·rename_i hr;cases h2;refine⟨τ,?_,fun h=>by simp[isW] at h,fun _=>rfl⟩
    rw[h1];simp[hr]
   ·cases h2
  ·cases h
theorem Y3(hl:B.length=A.length)(hrd:∀t,t∈ao.rd→B.get t=A.get t)(hW:isW ao.k=true→τ=σ)(hE:isP ao.k=false→isW ao.k=false→JB ao A τ=JB ao A σ)(h:FU pur call ao A σ=some (A',σ')):
  ∃B' τ',FU pur call ao B τ=some (B',τ')∧B'.length=B.length∧(∀t,t∈ao.wr→B'.get t=A'.get t)∧(∀t,t∉ao.wr→B'.get t=B.get t)∧(isW ao.k=true→τ'=σ')∧(isW ao.k=false→τ'=τ):=by
 have hw:FK B ao.guard=FK A ao.guard:=Tk _ fun t b hg=>hrd t (by simp[AOp.rd,hg])
 have he:BJ B ao.args=BJ A ao.args:=Jk _ fun t ht=>hrd t (by simp only[AOp.rd];exact List.mem_append_right _ ht)
 have fin:∀{B':Frm} {τ':Sto},FU pur call ao B τ=some (B',τ')→B'.length=B.length:=fun h=>Sj h
 unfold FU at h
 split at h
 ·rename_i hwt;unfold BV at h
  split at h
  ·rename_i vs hvs
   split at h
   ·rename_i rs σ1 hs
    have hσ:σ1=σ':=by
     split at h
     ·cases h;rfl
     ·split at h<;>cases h;rfl
    subst hσ
    have hEr:∀k',ao.k=.r k'→BR k' vs τ=BR k' vs σ:=by
     intro k' hk';cases hWk:isW ao.k with
     |true=>rw[hW hWk]
     |false=>
      have:=hE (by rw[hk'];rfl) hWk
      unfold JB at this;rw[hwt] at this;dsimp only at this;rw[hk',hvs] at this;exact this
    obtain⟨τ',h1,h2,h3⟩:=TE hW hEr hs;by_cases hlen:rs.length=ao.dst.toList.length+ao.ex.length
    ·rw[if_pos hlen] at h;cases h
     have hB:FU pur call ao B τ=some (CV B ao.wr (rs++ao.clr.map fun _=>none),τ'):=by
      unfold FU;rw[hw,hwt];dsimp only;unfold BV;rw[he,hvs];dsimp only;rw[h1];dsimp only;rw[if_pos hlen]
     refine⟨_,τ',hB,fin hB,fun t ht=>JJ _ _ _ _ t hl ?_ ht,fun t ht=>Fq _ _ _ t ht,h2,h3⟩
     simp only[AOp.wr,AV,Am];omega
    ·rw[if_neg hlen] at h
     split at h
     ·rename_i hc;cases h
      have hB:FU pur call ao B τ=some (B,τ'):=by
       unfold FU;rw[hw,hwt];dsimp only;unfold BV;rw[he,hvs];dsimp only;rw[h1];dsimp only;rw[if_neg hlen,if_pos hc]
      refine⟨_,τ',hB,rfl,fun t ht=>?_,fun t ht=>rfl,h2,h3⟩
      have:ao.wr=[]:=by
       simp only[AOp.wr,hc.2.1,hc.2.2,BD];have:=hc.1;cases hd:ao.dst with
       |none=>rfl
       |some d=>rw[hd] at this;simp at this
      rw[this] at ht;cases ht
     ·cases h
   ·cases h
  ·cases h
 ·rename_i hwt
  split at h
  ·rename_i hc;cases h
   have hB:FU pur call ao B τ=some (CV B ao.wr [some Iy],τ):=by
    unfold FU;rw[hw,hwt];dsimp only;rw[if_pos hc]
   refine⟨_,τ,hB,fin hB,fun t ht=>JJ _ _ _ _ t hl ?_ ht,fun t ht=>Fq _ _ _ t ht,hW,fun _=>rfl⟩
   simp only[AOp.wr,hc.1,hc.2,BD];cases ao.dst<;>simp
  ·cases h
 ·cases h
theorem Y4(h:FU pur call ao A σ=some (A',σ')):∀t,t∉ao.wr→A'.get t=A.get t:=by
 unfold FU at h
 split at h
 ·unfold BV at h
  split at h
  ·split at h
   ·split at h
    ·cases h;intro t ht;exact Fq _ _ _ t ht
    ·split at h
     ·cases h;intro t _;rfl
     ·cases h
   ·cases h
  ·cases h
 ·split at h
  ·cases h;intro t ht;exact Fq _ _ _ t ht
  ·cases h
 ·cases h
theorem Sg{T:Sto→Sto→Prop}(hT:∀s,T s s)(h:FU pur call ao A σ=some (A',σ'))(hk:∀vs rs,sem pur call ao.k vs σ=some (rs,σ')→T σ' σ):T σ' σ:=by
 unfold FU at h
 split at h
 ·unfold BV at h
  split at h
  ·split at h
   ·rename_i rs σ1 hs
    split at h
    ·cases h;exact hk _ _ hs
    ·split at h
     ·cases h;exact hk _ _ hs
     ·cases h
   ·cases h
  ·cases h
 ·split at h
  ·cases h;exact hT _
  ·cases h
 ·cases h
theorem Wl{k:AK}{vs:List PV}{rs:List (Option PV)}(hk:isW k=false)(h:sem pur call k vs σ=some (rs,σ')):σ'=σ:=by
 obtain⟨τ',h1,_,h3⟩:=TE (τ:=σ) (fun _=>rfl) (fun _ _=>rfl) h
 rw[h] at h1;cases h1;exact h3 hk
theorem ZW{cs:List PV}{i:Nat}{p:PV}(h:cs[i]?=some p)(hp:p.Io=true):mapOf (some cs)=none:=by
 rcases Im cs with h1 | ⟨d,z,ks,vs,rfl⟩
 ·exact h1
 ·cases i with
  |zero=>cases h;cases hp
  |succ i=>simp at h
theorem oP{σ:Sto}{id off:Nat}{cs:List PV}{v:PV}(hσ:σ[id]?=some cs)(hv:cs[off]?=some v)(hag:v.isAgg=false)(hsl:v.Io=true):Ya (σ.set id (EJ cs off [v.Ag])) σ:=by
 unfold Ya;rw[List.map_set];apply BH;intro k;rw[BO];split
 ·rename_i e;subst e;have hlt:=(Ab.1 hσ).1;simp only[Am,hlt,if_true,Af,hσ,Ay,Option.some.injEq];have hofs:=(Ab.1 hv);obtain⟨hlo,hve⟩:=hofs
  have hp:(EJ cs off [v.Ag])[off]?=some v.Ag:=by
   rw[MR (by simp;omega),if_pos ⟨Be _,by simp⟩,Nat.sub_self];rfl
  rw[F8 (ZW hv hsl),F8 (ZW hp (by cases v<;>first | rfl | cases hsl))]
  congr 1;unfold EJ;simp only[Ed,AR,Bh,BI,De];have e1:v.Ag.D8=v.D8:=by rw[LV hag];cases v<;>rfl
  rw[e1,←hve];have key:cs.take off++cs[off]::cs.drop (off+1)=cs:=by rw[←BB hlo,List.take_append_drop]
  have:=congrArg (List.map PV.D8) key;rw[Ed,AR] at this;simpa using this
 ·rfl
theorem Ug(y x:Kx):∀ks:List Kx,FT y (ks++[x])=match FT y ks with | some j=>some j | none=>if x=y then some ks.length else none
 |[]=>by
  simp only[BK,FT,De,Option.map_none]
 |k::ks=>by
  simp only[CF,FT];split
  ·rfl
  ·rw[Ug y x ks];cases FT y ks with
   |some j=>rfl
   |none=>
    by_cases h:x=y
    ·simp[h]
    ·simp[h]
theorem lJ{ks:List Kx}{x:Kx}{j:Nat}(h:FT x ks=some j):j<ks.length:=(Ab.1 (J4 h)).1
theorem kJ{ks:List Kx}{vs:List PV}{x:Kx}{z:PV}(hl:vs.length=ks.length)(y:Kx):(Gq y (ks++[x]) (vs++[z])).getD z=(Gq y ks vs).getD z:=by
 unfold Gq;rw[Ug];cases h:FT y ks with
 |some j=>
  have:=lJ h;simp only[Dn];rw[Ae (by omega)]
 |none=>
  by_cases hxy:x=y
  ·simp only[hxy,if_true,Dn,Option.bind_none];rw[←hl,Al (Be _),Nat.sub_self];rfl
  ·simp[hxy]
theorem oQ{id:Nat}{d:KD}{z:PV}{ks:List Kx}{vs:List PV}{x:Kx}(hm:mapOf σ[id]?=some (d,z,ks,vs))(hl:vs.length=ks.length):Ya (σ.set id [.mapo d z (ks++[x]) (vs++[z])]) σ:=by
 have hσ:σ[id]?=some [.mapo d z ks vs]:=by
  unfold mapOf at hm
  split at hm
  ·cases hm;assumption
  ·cases hm
 unfold Ya;rw[List.map_set];apply BH;intro k;rw[BO];split
 ·rename_i e;subst e;have hlt:=(Ab.1 hσ).1;simp only[Am,hlt,if_true,Af,hσ,Ay,Option.some.injEq];rw[H5,H5];congr 3
  funext y
  exact kJ hl y
 ·rfl
theorem gN{k:AK}{vs:List PV}{rs:List (Option PV)}(hk:isH k=false)(h:sem pur call k vs σ=some (rs,σ')):Ya σ' σ:=by
 cases k with
 |w k=>
  cases k with
  |ldo=>
   simp only[sem] at h
   match vs,h with
   |[c],h=>
    obtain⟨id,off,cs,v,rfl,h1,h2,h3,e⟩:=ai h;cases e;exact oP h1 h2 (by cases v<;>first | rfl | simp[PV.Io] at h3) h3
   |[],h=>simp[Cq] at h
   |x::y::l,h=>simp[Cq] at h
  |enM z d=>
   simp only[sem] at h
   match vs,h with
   |[.mref id,k],h=>
    simp only[Cq] at h
    split at h
    ·rename_i d' z' ks ws x hm hx
     split at h
     case isFalse=>cases h
     split at h
     ·split at h
      ·split at h
       ·cases h;rfl
       ·cases h
      ·cases h
     ·split at h
      case isFalse=>cases h
      rename_i hcc;cases h;exact oQ hm hcc.2
    ·cases h
  |_=>simp[isH] at hk
 |r k=>
  simp only[sem] at h;obtain⟨rs',h1,e⟩:=Ac.1 h;cases e;rfl
 |_=>
  have:=Wl (by rfl) h
  rw[this];rfl
theorem Uf(acc:List Nat)(i:Nat):∀(l:List Edge) (s:Nat),(l.foldl (fun s e=>if Region.binds .any e then s ||| 2 ^ e.on ||| acc.getD e.on 0 else s) s).testBit i=true→
  s.testBit i=true∨∃e∈l,Region.binds .any e=true∧(e.on=i∨(acc.getD e.on 0).testBit i=true)
 |[],s,h=>.inl h
 |e::l,s,h=>by
  simp only[Cn] at h;rcases Uf acc i l _ h with h | ⟨e',he',h⟩
  ·split at h
   ·rename_i hb;simp only[Nat.testBit_or,Df] at h;rcases h with(h | h) | h
    ·exact .inl h
    ·rw[Nat.testBit_two_pow] at h;exact .inr ⟨e,BG ..,hb,.inl (by simpa using h)⟩
    ·exact .inr ⟨e,BG ..,hb,.inr h⟩
   ·exact .inl h
  ·exact .inr ⟨e',Bw _ he',h⟩
theorem Py:∀(l:List Oper) (pre:List Oper) (acc:List Nat),ops.toList=pre++l→acc.length=pre.length→(∀i j,j<pre.length→(acc.getD j 0).testBit i=true→Ahead ops i j)→
  ∀i j,j<ops.size→((O7 acc l).getD j 0).testBit i=true→Ahead ops i j
 |[],pre,acc,he,hl,h=>by
  intro i j hj hb;refine h i j ?_ hb
  have:=congrArg List.length he;simp at this;omega
 |o::l,pre,acc,he,hl,h=>by
  simp only[O7];refine Py l (pre++[o]) _ (by rw[he];simp) (by simp[hl]) fun i j hj hb=>?_
  by_cases hlt:j<pre.length
  ·refine h i j hlt ?_
   rw[Aj,Ae (by omega),←Aj] at hb
   exact hb
  ·have hj':j=pre.length:=by simp at hj;omega
   subst hj';rw[Aj,Al (by omega),hl] at hb
   simp only[Nat.sub_self,List.getElem?_cons_zero,CB,Uu] at hb
   have ho:ops[pre.length]?=some o:=by
    rw[←Aw,he];simp
   intro L hcl hL;have hL':=hL o ho;rw[←Ew] at hb;rcases Uf acc i _ _ hb with hb | ⟨e,hemem,hbind,hb⟩
   ·simp at hb
   ·have hemem':e∈o.after:=by simpa using hemem
    rcases hb with rfl | hb
    ·exact hL' e hemem' hbind
    ·have hlt:e.on<pre.length:=by
      rcases Cc e.on pre.length with h' | h'
      ·exact h'
      ·rw[Aj,AC (by omega)] at hb
       simp at hb
     exact h i e.on hlt hb L hcl (fun o' ho' e' he' hb'=>hcl e.on o' ho' (hL' e hemem' hbind) e' he' hb')
theorem QZ{bits:List Nat}{az:List AOp}:∀(n:Nat),Qi bits az n=true→∀i j,i<j→j<n→(bits.getD j 0).testBit i=true∨O5 (az.getD i default) (az.getD j default)=true∨(IA (az.getD i default) (az.getD j default)=true∧(i,j)∈Kr bits az n)∨(IA (az.getD j default) (az.getD i default)=true∧(j,i)∈Kr bits az n)
 |0,_=>fun i j _ h=>by omega
 |n+1,h=>by
  simp only[Qi,Ak] at h;intro i j hij hj
  have hmono:∀p,p∈Kr bits az n→p∈Kr bits az (n+1):=by
   intro p hp;unfold Kr at hp ⊢;obtain⟨k,hk,hp⟩:=CE.1 hp;exact CE.2 ⟨k,Bg.2 (by have:=Bg.1 hk;omega),hp⟩
  rcases Cc j n with h' | h'
  ·rcases QZ n h.1 i j hij h' with h | h | ⟨h,hm⟩ | ⟨h,hm⟩
   ·exact .inl h
   ·exact .inr (.inl h)
   ·exact .inr (.inr (.inl ⟨h,hmono _ hm⟩))
   ·exact .inr (.inr (.inr ⟨h,hmono _ hm⟩))
  ·have:j=n:=by omega
   subst this;have:=Ao.1 h.2 i (Bg.2 hij);by_cases hb:(bits.getD j 0).testBit i=true
   ·exact .inl hb
   by_cases ha:O5 (az.getD i default) (az.getD j default)=true
   ·exact .inr (.inl ha)
   have hmem:∀p,p∈(if IA (az.getD i default) (az.getD j default) then[(i,j)] else if IA (az.getD j default) (az.getD i default) then[(j,i)] else[])→p∈Kr bits az (j+1):=by
    intro p hp;unfold Kr;refine CE.2 ⟨j,Bg.2 (by omega),?_⟩
    unfold jV;refine CE.2 ⟨i,Bg.2 hij,?_⟩
    rw[if_neg (by simp only[Df];rintro(h | h)<;>contradiction)]
    exact hp
   by_cases h1:IA (az.getD i default) (az.getD j default)=true
   ·exact .inr (.inr (.inl ⟨h1,hmem _ (by rw[if_pos h1];exact List.mem_singleton_self _)⟩))
   ·have h2:IA (az.getD j default) (az.getD i default)=true:=by
     simp only[Df] at this;rcases this with((h | h) | h) | h
     ·exact absurd h hb
     ·exact absurd h ha
     ·exact absurd h h1
     ·exact h
    exact .inr (.inr (.inr ⟨h2,hmem _ (by rw[if_neg h1,if_pos h2];exact List.mem_singleton_self _)⟩))
theorem Oh:∀(n:Nat),Qr ops.toList n=true→∀i o,i<n→ops[i]?=some o→∀e∈o.after,Region.binds .any e=true→e.on<i
 |0,_=>fun i o h=>by omega
 |n+1,h=>by
  simp only[Qr,Ak] at h;intro i o hi ho e he hb;rcases Cc i n with h' | h'
  ·exact Oh n h.1 i o h' ho e he hb
  ·have:i=n:=by omega
   subst this;have h2:=h.2;rw[Aw,ho] at h2;dsimp only at h2;have:=Array.all_eq_true_iff_forall_mem.1 h2 e he;simp only[hb,D7,Eh,decide_eq_true_eq] at this;exact this
theorem FE{x y:List Nat}(h:H9 x y=true):∀t,t∈x→t∉y:=by
 intro t ht hy;have:=Ao.1 h t ht;simp at this;exact this hy
def Pq(az:List AOp)(lo:List (Nat×Nat))(i j:Nat):Bool:=isH (az.getD i default).k&&!lo.contains (i,j)
theorem PY{az:List AOp}{lo:List (Nat×Nat)}{i j:Nat}(h:O5 (az.getD i default) (az.getD j default)=true):
  Ic (fun i=>(az.getD i default).rd) (fun i=>(az.getD i default).wr) (fun i=>isW (az.getD i default).k) (Pq az lo) (fun i=>isP (az.getD i default).k) i j:=by
 simp only[O5,Ak] at h;obtain⟨⟨⟨⟨h1,h2⟩,h3⟩,h4⟩,h5⟩:=h;refine⟨FE h1,FE h2,FE h3,fun hw=>?_,fun hw=>?_⟩
 ·simp only[hw,D7,Eh,Df,Ak,ED] at h4;rcases h4 with h4 | ⟨h4,h6⟩
  ·exact .inl h4
  ·exact .inr ⟨by unfold Pq;rw[h4];rfl,h6⟩
 ·simp only[hw,D7,Eh,Df,Ak,ED] at h5;rcases h5 with h5 | ⟨h5,h6⟩
  ·exact .inl h5
  ·exact .inr ⟨by unfold Pq;rw[h5];rfl,h6⟩
theorem K3{az:List AOp}{lo:List (Nat×Nat)}{i j:Nat}(h:IA (az.getD i default) (az.getD j default)=true)(hm:(i,j)∈lo):
  Ic (fun i=>(az.getD i default).rd) (fun i=>(az.getD i default).wr) (fun i=>isW (az.getD i default).k) (Pq az lo) (fun i=>isP (az.getD i default).k) i j:=by
 simp only[IA,Ak,ED] at h;obtain⟨⟨⟨⟨⟨h1,h2⟩,h3⟩,h4⟩,h5⟩,h6⟩:=h;refine⟨FE h1,FE h2,FE h3,fun _=>.inr ⟨?_,h6⟩,fun hw=>?_⟩
 ·simp[Pq,hm]
 ·rw[h6] at hw;cases hw
theorem Qx{rd wr:Nat→List Nat}{W:Nat→Bool}{H:Nat→Nat→Bool}{Pu:Nat→Bool}{i j:Nat}(h:Ic rd wr W H Pu i j):Ic rd wr W H Pu j i:=
 ⟨h.b,h.a,fun t h1 h2=>h.c t h2 h1,h.e,h.d⟩
theorem qg{k:AK}(h:isW k=true):isP k=false:=by cases k<;>first | rfl | simp[isW] at h
theorem qh{k:AK}(h:isH k=true):isW k=true:=by cases k<;>first | rfl | simp[isH] at h
theorem Sm:∀(az:List AOp) (A:Frm) (σ:Sto) (tr:List (Frm×Sto)),Kw pur call az A σ=some tr→
  tr.length=az.length+1∧tr[0]?=some (A,σ)∧∀i,i<az.length→∃x y,tr[i]?=some x∧tr[i+1]?=some y∧FU pur call (az.getD i default) x.1 x.2=some y
 |[],A,σ,tr,h=>by cases h;exact⟨rfl,rfl,fun i h=>by simp at h⟩
 |ao::az,A,σ,tr,h=>by
  simp only[Kw] at h
  split at h
  ·rename_i A1 σ1 h1;obtain⟨tr',h2,rfl⟩:=Ac.1 h;obtain⟨e1,e2,e3⟩:=Sm az A1 σ1 tr' h2;refine⟨by simp[e1],rfl,fun i hi=>?_⟩
   cases i with
   |zero=>exact⟨_,_,rfl,e2,h1⟩
   |succ i=>exact e3 i (by simpa using hi)
  ·cases h
theorem Nk:∀(az:List AOp) (A:Frm) (σ:Sto),Kw pur call az A σ=none∧Gn pur call az A σ=none∨∃tr x,Kw pur call az A σ=some tr∧tr.getLast?=some x∧Gn pur call az A σ=some x
 |[],A,σ=>.inr ⟨_,_,rfl,rfl,rfl⟩
 |ao::az,A,σ=>by
  simp only[Kw,Gn];split
  ·rename_i A1 σ1 h1;rcases Nk az A1 σ1 with⟨e1,e2⟩ | ⟨tr,x,e1,e2,e3⟩
   ·exact .inl ⟨by rw[e1];rfl,e2⟩
   ·refine .inr ⟨_,x,by rw[e1];rfl,?_,e3⟩
    cases tr with
    |nil=>cases e2
    |cons t tr=>rw[List.getLast?_cons_cons];exact e2
  ·exact .inl ⟨rfl,rfl⟩
theorem XV{az:List AOp}{lo:List (Nat×Nat)}(h:Gw pur call az lo A σ=some (A',σ')):Gn pur call az A σ=some (A',σ'):=by
 unfold Gw at h;rcases Nk (pur:=pur) (call:=call) az A σ with⟨e1,_⟩ | ⟨tr,x,e1,e2,e3⟩
 ·rw[e1] at h;cases h
 ·rw[e1] at h;dsimp only at h
  split at h
  ·rw[e2] at h;cases h;exact e3
  ·cases h
theorem jd{az:List AOp}(h:Gn pur call az A σ=some (A',σ')):Gw pur call az [] A σ=some (A',σ'):=by
 unfold Gw;rcases Nk (pur:=pur) (call:=call) az A σ with⟨_,e2⟩ | ⟨tr,x,e1,e2,e3⟩
 ·rw[e2] at h;cases h
 ·rw[e1];rw[h] at e3;cases e3;exact e2
theorem UT{ro:Option Nat}{n:Nat}{Q:Exit→Act→World→Prop}(hS:EW P call)(hx:Dp cx fi)(hmo:P.follows .mixedOrders=true){id:Nat}{draw:Bool}{az:List AOp}{lo:List (Nat×Nat)}(hc:FM P pur fi id ops draw=some (az,lo))
  (hex:Gw pur call az lo A σ=some (A',σ')) (hs:Sim cx a w A σ) {Sl:Nat→Prop} (hsp:∀t,Sl t→∀(i:Nat) (o:Oper),ops[i]?=some o→o.dst≠some t) (hq:∀a' w',Sim cx a' w' A' σ'→(∀t,Sl t→at' a' t=at' a t)→Q .normal a' w'):(Code.region id ops draw).wpIn (FW ro) n P Q a w:=by
 unfold FM at hc
 split at hc
 ·rename_i as' hl;obtain⟨hlen,hspec⟩:=JO _ _ _ hl;have hlen':as'.length=ops.size:=by simpa using hlen
  have hok:∀(i:Nat) (o:Oper) (ao:AOp),ops[i]?=some o→as'[i]?=some ao→mV P pur fi ops o ao:=fun i o ao ho ha=>hspec i o ao (by rw[Aw];exact ho) ha
  cases draw with
  |false=>
   simp only[Bool.false_eq_true,if_false] at hc;cases hc;have hex:=XV hex;refine wpIn_region ?_
   have:=TN (ro:=ro) (n:=n) hS hx hlen' hok hsp hq ops.size 0 (by omega) A σ (by simpa using hex) a w hs (fun _ _=>rfl)
   rw[DU];exact this
  |true=>
   simp only[if_true] at hc
   split at hc
   ·rename_i hcc;cases hc;simp only[Ak] at hcc;obtain⟨hacy,hpairs⟩:=hcc;generalize hlo:Kr (O7 [] ops.toList) az ops.size=lo at hex;unfold Gw at hex
    split at hex
    case h_2=>cases hex
    rename_i tr htr
    split at hex
    case isFalse=>cases hex
    rename_i hloose;obtain⟨t1,t2,t3⟩:=Sm _ _ _ _ htr
    let F:Nat→Frm:=fun i=>(tr.getD i default).1
    let S:Nat→Sto:=fun i=>(tr.getD i default).2
    have hFS:∀(i:Nat) (x:Frm×Sto),tr[i]?=some x→F i=x.1∧S i=x.2:=fun i x h=>by
     simp only[F,S,Aj,h];exact⟨rfl,rfl⟩
    have e1:F 0=A:=(hFS 0 _ t2).1;have e2:S 0=σ:=(hFS 0 _ t2).2
    have e5:∀i,i<ops.size→FU pur call (az.getD i default) (F i) (S i)=some (F (i+1),S (i+1)):=fun i hi=>by
     obtain⟨x,y,h1,h2,h3⟩:=t3 i (by omega)
     rw[(hFS i x h1).1,(hFS i x h1).2,(hFS _ y h2).1,(hFS _ y h2).2];exact h3
    have hlast:F ops.size=A'∧S ops.size=σ':=by
     have:tr[ops.size]?=some (A',σ'):=by
      rw[DJ] at hex;rw[show tr.length - 1=ops.size from by omega] at hex
      exact hex
     exact hFS _ _ this
    obtain⟨e3,e4⟩:=hlast
    have hans:∀i r,(i,r)∈lo→JB (az.getD r default) (F r) (S (i+1))=JB (az.getD r default) (F r) (S i):=by
     intro i r hm;have:=Ao.1 hloose (i,r) hm;dsimp only at this
     split at this
     ·rename_i o Ar σr Ai σi Ai' σi' ho h1 h2 h3;rw[Aj,ho,(hFS _ _ h1).1,(hFS _ _ h2).2,(hFS _ _ h3).2];exact(mI this).symm
     ·cases this
    refine wpIn_region_any hmo ?_
    have hlenF:∀i,i≤ops.size→(F i).length=(F 0).length:=by
     intro i
     induction i with
     |zero=>intro _;rfl
     |succ i ih=>intro hi;rw[Sj (e5 i (by omega)),ih (by omega)]
    refine Qt (A:=F) (S:=S) (x:=fun i B τ=>FU pur call (az.getD i default) B τ) (rd:=fun i=>(az.getD i default).rd) (wr:=fun i=>(az.getD i default).wr)
     (W:=fun i=>isW (az.getD i default).k) (H:=Pq az lo) (Pu:=fun i=>isP (az.getD i default).k)
     (E:=fun r τ τ'=>isW (az.getD r default).k=true∨JB (az.getD r default) (F r) τ=JB (az.getD r default) (F r) τ') (Sim:=fun a1 w B τ=>Sim cx a1 w B τ∧∀t,Sl t→at' a1 t=at' a t)
     (fun _ _=>.inr rfl) (fun _ _ _ h=>h.imp (fun x=>x) Eq.symm) (fun _ _ _ _ h k=>by
      rcases h with h | h
      ·exact .inl h
      ·rcases k with k | k
       ·exact .inl k
       ·exact .inr (h.trans k))
     (fun i r hi hr hP hH=>by
      cases hWr:isW (az.getD r default).k with
      |true=>exact .inl rfl
      |false=>
       refine .inr ?_
       simp only[Pq,Bool.and_eq_false_iff,Bool.not_eq_false'] at hH;rcases hH with hH | hH
       ·have hE:Ya (S (i+1)) (S i):=Sg (fun _=>rfl) (e5 i hi) (fun vs rs h=>gN hH h)
        unfold JB;split
        ·split
         ·rename_i k vs hk hv;exact Yj (fun h=>by rw[hk] at hWr;rw[hWr] at h;cases h) hE
         ·rfl
        ·rfl
        ·rfl
       ·exact hans i r (by simpa using hH)) hlenF (fun i hi t ht=>Y4 (e5 i hi) t ht)
     (fun i hi hW=>Sg (T:=fun s t=>s=t) (fun _=>rfl) (e5 i hi) (fun vs rs h=>Wl hW h))
     (fun i hi h=>qg h) (fun i r hi h=>qh (by simp only[Pq,Ak] at h;exact h.1)) ?_ ?_ ?_ ?_ ?_ ops.size (Array.replicate ops.size false) (List.range ops.size) (F 0) (S 0) a _ (by simp) (by simp) (fun j hj _=>Bg.2 hj) ?_ ?_
    ·intro i hi B τ hBl hrd hW hE
     exact Y3 (by rw[hBl,hlenF i (by omega)]) hrd hW (fun h1 h2=>by
      rcases hE h1 with h | h
      ·rw[h2] at h;cases h
      ·exact h) (e5 i hi)
    ·intro i j hij hj;rcases QZ _ hpairs i j hij hj with h | h | ⟨h,hm⟩ | ⟨h,hm⟩
     ·exact .inl (Py ops.toList [] [] rfl rfl (fun i j h=>by simp at h) i j hj h)
     ·exact .inr (PY h)
     ·exact .inr (K3 h (by rw[←hlo];exact hm))
     ·exact .inr (Qx (K3 h (by rw[←hlo];exact hm)))
    ·intro i o ho e he hb;have hi:i<ops.size:=(Bd.1 ho).1;exact Oh ops.size hacy i o hi ho e he hb
    ·intro i hi a1 w B τ B' τ' K hs' hx' hK;have ho:ops[i]?=some ops[i]:=Az hi
     have ha:az[i]?=some (az.getD i default):=by
      rw[Aj,Ad (by omega)];rfl
     exact Si hS hx ho (hok i _ _ ho ha) hs'.1 hx' fun a' w' h1 h2=>hK a' w' ⟨h1,fun t ht=>(h2 t (hsp t ht i _ ho)).trans (hs'.2 t ht)⟩
    ·intro a' w' hs';rw[e3,e4] at hs';exact hq a' w' hs'.1 hs'.2
    ·have hL:∀j,(Array.replicate ops.size false).getD j false=false:=by
      intro j;by_cases hj:j<ops.size<;>simp[Array.getD,hj]
     refine⟨?_,rfl,fun t=>⟨0,by omega,rfl,fun j hj _=>?_⟩,0,by omega,rfl,fun j hj _=>?_⟩
     ·intro j o ho hLj
      exfalso
      have:(Array.replicate ops.size false).getD j false=true:=hLj;rw[hL] at this;cases this
     ·show(Array.replicate ops.size false).getD j false=true↔_;rw[hL];simp
     ·show(Array.replicate ops.size false).getD j false=true↔_;rw[hL];simp
    ·rw[e1,e2];obtain⟨G,hi⟩:=hs;exact⟨⟨G,hi.drew⟩,fun _ _=>rfl⟩
   ·cases hc
 ·cases hc
end
end Go.Abs

namespace Go.Abs
open Go.RowKit
def Bt.ex:Bt→Exit
 |.normal=>.normal
 |.exit id=>.exit id
 |.ret=>.ret
section
variable{P:Program}{pur:FuncId→Bool}{call:Caller}{fi:FI}{cx:Cx}{G:Gh}{a:Act}{w:World}{A A' B:Frm}{σ σ' τ:Sto}
theorem Il{keep:List Bool}(h:keep.length=A.length):(mask keep A).length=A.length:=by
 unfold mask;rw[List.length_zipWith];omega
theorem jM{keep:List Bool}{t:Nat}{v:PV}(h:(mask keep A).get t=some v):A.get t=some v:=by
 unfold mask Frm.get at h;rw[Cf] at h;unfold Frm.get;cases hk:keep[t]? with
 |none=>rw[hk] at h;simp at h
 |some b=>
  rw[hk] at h;cases ha:A[t]? with
  |none=>rw[ha] at h;simp at h
  |some x=>
   rw[ha] at h;dsimp only at h ⊢
   split at h
   ·exact h
   ·cases h
theorem Wd{keep:List Bool}(hl:keep.length=A.length)(hs:Sim cx a w A σ):Sim cx a w (mask keep A) σ:=by
 obtain⟨G,hi⟩:=hs;exact⟨G,hi.forget (Il hl) (fun t v h=>jM h)⟩
theorem Xt{keep:List Bool}{body:Frm→Sto→Option (Bt×Frm×Sto)}(hb:∀A σ e A' σ',body A σ=some (e,A',σ')→A'.length=A.length):
  ∀(n:Nat) (A:Frm) (σ:Sto) (e:Bt) (A':Frm) (σ':Sto),keep.length=A.length→iter keep body n A σ=some (e,A',σ')→A'.length=A.length
 |0,A,σ,e,A',σ',_,h=>by cases h
 |n+1,A,σ,e,A',σ',hl,h=>by
  simp only[iter] at h
  split at h
  ·rename_i A1 σ1 h1;have:=hb _ _ _ _ _ h1;rw[Xt hb n _ _ _ _ _ (by rw[Il (by omega)];omega) h,Il (by omega),this]
  ·exact hb _ _ _ _ _ h
theorem mf{m:Nat}:∀(ac:Dc) (A:Frm) (σ:Sto) (e:Bt) (A':Frm) (σ':Sto),F4 pur call m ac A σ=some (e,A',σ')→A'.length=A.length:=by
 intro ac
 induction ac with
 |skip=>intro A σ e A' σ' h;simp only[F4] at h;cases h;rfl
 |region ops=>
  intro A σ e A' σ' h;simp only[F4] at h;obtain⟨⟨A1,σ1⟩,h1,e1⟩:=Ac.1 h;cases e1;exact LU _ h1
 |seq x y ihx ihy=>
  intro A σ e A' σ' h;simp only[F4] at h
  split at h
  ·rename_i A1 σ1 h1;rw[ihy _ _ _ _ _ h,ihx _ _ _ _ _ h1]
  ·exact ihx _ _ _ _ _ h
 |cond c t e iht ihe=>
  intro A σ e A' σ' h;simp only[F4] at h
  split at h
  ·exact iht _ _ _ _ _ h
  ·exact ihe _ _ _ _ _ h
  ·cases h
 |block id c ih=>
  intro A σ e A' σ' h;simp only[F4] at h
  split at h
  ·rename_i i A1 σ1 h1
   split at h<;>(cases h;exact ih _ _ _ _ _ h1)
  ·exact ih _ _ _ _ _ h
 |loop keep c ih=>
  intro A σ e A' σ' h;simp only[F4] at h
  split at h
  ·rename_i hl;rw[Xt (fun A σ e A' σ' h=>ih A σ e A' σ' h) _ _ _ _ _ _ (by rw[Il hl];exact hl) h,Il hl]
  ·cases h
 |exit id=>intro A σ e A' σ' h;simp only[F4] at h;cases h;rfl
 |ret=>intro A σ e A' σ' h;simp only[F4] at h;cases h;rfl
 |draw ops lo=>
  intro A σ e A' σ' h;simp only[F4] at h;obtain⟨⟨A1,σ1⟩,h1,e1⟩:=Ac.1 h;cases e1;exact LU _ (XV h1)
theorem least{T:Nat→Prop}(h:∃k,T k):∃k,T k∧∀j,T j→k≤j:=by
 obtain⟨k,hk⟩:=h
 induction k using Nat.strongRecOn with
 |_ k ih=>
  by_cases h:∃j,j<k∧T j
  ·obtain⟨j,h1,h2⟩:=h;exact ih j h1 h2
  ·exact⟨k,hk,fun j hj=>Nat.le_of_not_lt fun hlt=>h ⟨j,hlt,hj⟩⟩
def Es(t:Nat):Code→Bool
 |.region _ ops _=>ops.toList.all fun o=>o.dst != some t
 |.seq x y=>Es t x&&Es t y
 |.cond _ x y=>Es t x&&Es t y
 |.block _ c=>Es t c
 |.loop c=>Es t c
 |_=>true
theorem Gg{ro:Option Nat}{n:Nat}(hS:EW P call)(hx:Dp cx fi)(hmo:P.follows .mixedOrders=true):∀(c:Code) (ac:Dc),comp P pur fi c=some ac→
  ∀(m:Nat) (A:Frm) (σ:Sto) (e:Bt) (A':Frm) (σ':Sto),F4 pur call m ac A σ=some (e,A',σ')→∀(a:Act) (w:World),Sim cx a w A σ→
  ∀(Q:Exit→Act→World→Prop),(∀a' w',Sim cx a' w' A' σ'→(∀t,Es t c=true→at' a' t=at' a t)→Q e.ex a' w')→c.wpIn (FW ro) n P Q a w:=by
 intro c
 induction c with
 |skip=>
  intro ac hc m A σ e A' σ' h a w hs Q hq;simp only[comp] at hc;cases hc;simp only[F4] at h;cases h;exact wpIn_skip (hq a w hs fun _ _=>rfl)
 |region id ops draw=>
  intro ac hc m A σ e A' σ' h a w hs Q hq;simp only[comp] at hc;obtain⟨⟨az,lo⟩,has,hac⟩:=Ac.1 hc
  have h1:Gw pur call az lo A σ=some (A',σ')∧e=.normal:=by
   dsimp only at hac
   split at hac
   ·rename_i hlo;rw[D9] at hlo;subst hac hlo;simp only[F4] at h;obtain⟨⟨A1,σ1⟩,h1,e1⟩:=Ac.1 h;cases e1;exact⟨jd h1,rfl⟩
   ·subst hac;simp only[F4] at h;obtain⟨⟨A1,σ1⟩,h1,e1⟩:=Ac.1 h;cases e1;exact⟨h1,rfl⟩
  obtain⟨h1,rfl⟩:=h1
  exact UT hS hx hmo has h1 hs (Sl:=fun t=>Es t (.region id ops draw)=true) (fun t ht i o ho=>by
   simp only[Es] at ht;have:=Ao.1 ht o (AA (by rw[Aw];exact ho))
   simpa using this) hq
 |seq x y ihx ihy=>
  intro ac hc m A σ e A' σ' h a w hs Q hq;simp only[comp] at hc
  split at hc
  ·rename_i ax ay hax hay;cases hc;simp only[F4] at h;refine wpIn_seq ?_
   split at h
   ·rename_i A1 σ1 h1
    exact ihx ax hax m A σ _ A1 σ1 h1 a w hs _ (fun a' w' hs' hf=>ihy ay hay m A1 σ1 e A' σ' h a' w' hs' Q fun a2 w2 hs2 hf2=>hq a2 w2 hs2 fun t ht=>by
     simp only[Es,Ak] at ht;exact(hf2 t ht.2).trans (hf t ht.1))
   ·rename_i hn;refine ihx ax hax m A σ e A' σ' h a w hs _ (fun a' w' hs' hf=>?_)
    have hf':∀t,Es t (.seq x y)=true→at' a' t=at' a t:=fun t ht=>by
     simp only[Es,Ak] at ht;exact hf t ht.1
    cases e with
    |normal=>exact absurd h (hn A' σ')
    |exit id=>exact hq a' w' hs' hf'
    |ret=>exact hq a' w' hs' hf'
  ·cases hc
 |cond c x y ihx ihy=>
  intro ac hc m A σ e A' σ' h a w hs Q hq;simp only[comp] at hc
  split at hc
  ·rename_i ac' ax ay hac hax hay;cases hc;simp only[F4] at h;have hs0:=hs;obtain⟨G,hi⟩:=hs
   split at h
   ·rename_i hev;have:=(Ba hi hx.kd hac hev rfl).Ht;exact wpIn_cond_true this (ihx ax hax m A σ e A' σ' h a w hs0 Q fun a' w' hs' hf=>hq a' w' hs' fun t ht=>hf t (by simp only[Es,Ak] at ht;exact ht.1))
   ·rename_i hev;have:=(Ba hi hx.kd hac hev rfl).Ht;exact wpIn_cond_false this (ihy ay hay m A σ e A' σ' h a w hs0 Q fun a' w' hs' hf=>hq a' w' hs' fun t ht=>hf t (by simp only[Es,Ak] at ht;exact ht.2))
   ·cases h
  ·cases hc
 |block id c ih=>
  intro ac hc m A σ e A' σ' h a w hs Q hq;simp only[comp] at hc;obtain⟨ac',hac,rfl⟩:=Ac.1 hc;simp only[F4] at h;refine wpIn_block ?_
  split at h
  ·rename_i i A1 σ1 h1;refine ih ac' hac m A σ _ A1 σ1 h1 a w hs _ (fun a' w' hs' hf=>?_)
   show(if i=id then Q .normal a' w' else Q (.exit i) a' w')
   split at h
   ·rename_i e1;cases h;rw[if_pos e1];exact hq a' w' hs' hf
   ·rename_i e1;cases h;rw[if_neg e1];exact hq a' w' hs' hf
  ·rename_i hn;refine ih ac' hac m A σ e A' σ' h a w hs _ (fun a' w' hs' hf=>?_)
   cases e with
   |normal=>exact hq a' w' hs' hf
   |exit id=>exact absurd h (hn id A' σ')
   |ret=>exact hq a' w' hs' hf
 |loop c ih=>
  intro ac hc m A σ e A' σ' h a w hs Q hq;simp only[comp] at hc;obtain⟨ac',hac,rfl⟩:=Ac.1 hc;simp only[F4] at h
  split at h
  ·rename_i hl
   let keep:=fi.keep
   let body:=F4 pur call m ac'
   let T:Act→World→Nat→Prop:=fun a w k=>∃A σ,keep.length=A.length∧Sim cx a w A σ∧iter keep body k A σ=some (e,A',σ')
   classical
   let μ:Act→World→Nat:=fun a w=>if hex:∃k,T a w k then(least hex).choose else 0
   refine wpIn_loop (fun a1 w=>(∃k,T a1 w k)∧∀t,Es t (.loop c)=true→at' a1 t=at' a t) μ ⟨⟨m,mask keep A,σ,by rw[Il hl];exact hl,Wd hl hs,h⟩,fun _ _=>rfl⟩ ?_
   rintro a1 w ⟨hI,hF⟩
   have hμ:μ a1 w=(least hI).choose:=dif_pos hI;obtain⟨A1,σ1,hl1,hs1,hit⟩:=(least hI).choose_spec.1;rw[←hμ] at hit;cases hk:μ a1 w with
   |zero=>rw[hk] at hit;simp[iter] at hit
   |succ k=>
    rw[hk] at hit;simp only[iter] at hit
    split at hit
    ·rename_i A2 σ2 h2;refine ih ac' hac m A1 σ1 _ A2 σ2 h2 a1 w hs1 _ (fun a' w' hs' hf=>?_)
     have hl2:keep.length=A2.length:=by rw[mf _ _ _ _ _ _ h2];exact hl1
     have hT:T a' w' k:=⟨mask keep A2,σ2,by rw[Il hl2];exact hl2,Wd hl2 hs',hit⟩
     refine⟨⟨⟨k,hT⟩,fun t ht=>(hf t ht).trans (hF t ht)⟩,?_⟩
     have hI':∃k,T a' w' k:=⟨k,hT⟩;have hμ':μ a' w'=(least hI').choose:=dif_pos hI';have:(least hI').choose≤k:=(least hI').choose_spec.2 k hT;omega
    ·rename_i hn;refine ih ac' hac m A1 σ1 e A' σ' hit a1 w hs1 _ (fun a' w' hs' hf=>?_)
     have hf':∀t,Es t (.loop c)=true→at' a' t=at' a t:=fun t ht=>(hf t ht).trans (hF t ht)
     cases e with
     |normal=>exact absurd hit (hn A' σ')
     |exit id=>exact hq a' w' hs' hf'
     |ret=>exact hq a' w' hs' hf'
  ·cases h
 |exit id=>
  intro ac hc m A σ e A' σ' h a w hs Q hq;simp only[comp] at hc;cases hc;simp only[F4] at h;cases h;exact wpIn_exit (hq a w hs fun _ _=>rfl)
 |ret=>
  intro ac hc m A σ e A' σ' h a w hs Q hq;simp only[comp] at hc;cases hc;simp only[F4] at h;cases h;exact wpIn_ret (hq a w hs fun _ _=>rfl)
 |_=>intro ac hc;simp[comp] at hc
end
end Go.Abs

namespace Go.Abs
open Go.RowKit
section
variable{P:Program}{pur:FuncId→Bool}{call:Caller}{fi:FI}{cx:Cx}{G:Gh}{a:Act}{w:World}{A A' B:Frm}{σ σ' τ:Sto}
theorem H8{k:SK}(h:k.K4=true):k.val=true:=by cases k<;>first | rfl | simp[SK.K4] at h
theorem Vn{t:Nat}(h:fi.kind t≠.plain):t<fi.kd.length:=by
 rcases Cc t fi.kd.length with h' | h'
 ·exact h'
 ·exfalso;apply h
  unfold FI.kind;rw[Aj,AC h'];rfl
theorem jD(h:fi.okB=true):∀t m,(∃key,fi.kind t=.ent m key)→∃keys,fi.kind m=.mapb keys:=by
 rintro t m ⟨key,hk⟩
 have:=Ao.1 h t (Bg.2 (Vn (by rw[hk];simp)))
 rw[hk] at this;simp only[Ak] at this;have h1:=this.1
 split at h1
 ·rename_i keys hm;exact⟨keys,hm⟩
 ·cases h1
theorem jC(h:fi.okB=true):∀t t' m key,fi.kind t=.ent m key→fi.kind t'=.ent m key→t=t':=by
 intro t t' m key hk hk';have:=Ao.1 h t (Bg.2 (Vn (by rw[hk];simp)))
 rw[hk] at this;simp only[Ak] at this;have h2:=Ao.1 this.2 t' (Bg.2 (Vn (by rw[hk'];simp)))
 rw[hk'] at h2;simp at h2;exact h2.symm
def WZ(fi:FI)(hok:fi.okB=true)(K:Nat→Prop)(G:Gh)(w:World):Cx:=
 { K,I0:=G.I,w0:=w,bl0:=G.bl,kd:=fi.kind,nt:=fi.nt,al:=fi.alias,ents:=jD hok,uniq:=jC hok }
theorem vz(hok:fi.okB=true)(K:Nat→Prop)(G:Gh)(w:World):Dp (WZ fi hok K G w) fi:=⟨fun _=>rfl,rfl,fun _=>rfl⟩
theorem lv{args:List PV}{k t:Nat}{p:PV}(h:Frm.get (args.map some++List.replicate k none) t=some p):args[t]?=some p:=by
 unfold Frm.get at h;by_cases hlt:t<args.length
 ·rw[Ae (by simpa using hlt),Af] at h
  cases ha:args[t]? with
  |none=>rw[ha] at h;cases h
  |some q=>rw[ha] at h;exact h
 ·rw[Al (by simp;omega)] at h
  split at h
  ·rename_i v hv;have:=AA hv;rw[List.mem_replicate] at this;rw[this.2] at h;cases h
  ·cases h
theorem Pi{tag:Tag}{v:Value}{p:PV}(h:p.Ag=p):Eb G w tag v p:=by
 rw[←h];exact Cj p
theorem RF(hok:fi.okB=true){K:Nat→Prop}(hpre:Pre K G w σ){vs:Array Value}{args:List PV}(hargs:FJ G.I G.bl w vs.toList args)(hown:∀p∈args,p.Ag=p)(hle:args.length≤fi.nt)
  (hval:∀t,t<args.length→(fi.kind t).val=true) (extra:Nat) :
  Inv (WZ fi hok K G w) G { tmps:=vs++Array.replicate (fi.nt - vs.size) undef,defers:=[] } w (args.map some++List.replicate (fi.nt+extra - args.length) none) σ:=by
 have hvs:vs.size=args.length:=by simpa using hargs.1
 refine⟨rfl,?_,?_,?_,?_,hpre.obj,hpre.len,hpre.abl⟩
 ·show(vs++Array.replicate (fi.nt - vs.size) undef).size=fi.nt
  simp;omega
 ·show fi.nt≤_
  simp;omega
 ·refine⟨fun _ _=>rfl,Same.refl _ _,fun _ _ h=>h,fun _ _ h=>.inl h,hpre.lt,hpre.own,hpre.Klt,Be _,Bl.le_refl _,rfl,rfl,rfl⟩
 ·intro t p hp;have ha:=lv hp;have hlt:=(Ab.1 ha).1;obtain⟨v,hv,hr⟩:=hargs.2 t p ha
  have hat:at' { tmps:=vs++Array.replicate (fi.nt - vs.size) undef,defers:=[] } t=v:=by
   have hlt':t<vs.size:=by omega
   rw[Aw] at hv;simp only[at',Ah];rw[Dt hlt',hv];rfl
  rw[BL (hval t hlt) hr.free,hat];exact⟨hr,Pi (hown p (AA ha))⟩
def Yv(tmps:Array Value):ResultVar→Sem Value
 |.tmp t=>pure (tmps.getD t undef)
 |.cell b t=>do loadVar t (←asAddr (tmps.getD b undef))
theorem Yu(fn:Func)(tmps:Array Value):results fn tmps=(do let vs ← fn.results.mapM (Yv tmps);pure (if h:vs.size=1 then vs[0] else .tuple vs)):=rfl
theorem Jv(hi:Inv cx G a w A σ)(hx:Dp cx fi):∀(rl:List ResultVar) (rs:List (Nat×Option Nat)) (ps:List PV),Hm P fi rl=some rs→Fz A rs=some ps→
  ∃vl:List Value,(rl.mapM (Yv a.tmps)).run P w=.ok vl w∧FJ G.I G.bl w vl ps
 |[],rs,ps,hr,hp=>by
  cases hr;cases hp;exact⟨[],rfl,rfl,fun i p h=>by simp at h⟩
 |.tmp t::rl,rs,ps,hr,hp=>by
  simp only[Hm] at hr
  split at hr
  ·rename_i hpl;obtain⟨rs',hrs,rfl⟩:=Ac.1 hr;simp only[Fz] at hp
   split at hp
   ·rename_i v vs hg hvs
    split at hp
    ·rename_i hf;cases hp;obtain⟨vl,h1,h2⟩:=Jv hi hx rl rs' vs hrs hvs;have hsl:=En hx.kd hx.nt hpl;have hrep:=((BL hsl.2 hf).1 (hi.slot t v hg)).1;refine⟨at' a t::vl,?_,by simp[h2.1],fun i p hp=>?_⟩
     ·rw[List.mapM_cons];simp only[Yv,Sem.run_bind,Sem.run_pure,Result.andThen_ok,h1];rfl
     ·cases i with
      |zero=>simp at hp;subst hp;exact⟨_,rfl,hrep.Ag⟩
      |succ i=>simpa using h2.2 i p (by simpa using hp)
    ·simp[Lh] at hp
   ·cases hp
  ·cases hr
 |.cell t ty::rl,rs,ps,hr,hp=>by
  simp only[Hm] at hr
  split at hr
  ·rename_i n hcell
   split at hr
   ·rename_i hpl;obtain⟨rs',hrs,rfl⟩:=Ac.1 hr;simp only[Fz] at hp
    split at hp
    ·rename_i v vs hg hvs
     split at hp
     ·rename_i hf;cases hp;obtain⟨vl,h1,h2⟩:=Jv hi hx rl rs' vs hrs hvs;have hk:cx.kd t=.box:=by rw[hx.kd];exact hpl.2
      obtain⟨b,hb,hcells⟩:=(Dz hk).1 (hi.slot t v hg)
      have hsub:sub v 0 n true=some v:=by
       cases v with
       |agg cs=>
        simp only[Lg,fits,Bool.true_and,Ak,beq_iff_eq,PV.cells] at hf;obtain⟨rfl,hf2⟩:=hf;have e:(cs.drop 0).take cs.length=cs:=by simp
        simp only[sub];rw[e,if_pos ⟨by omega,hf2⟩]
       |_=>simp[Lg,fits] at hf
      obtain⟨u,hu1,hu2⟩:=GU (P:=P) hcell hcells hsub
      have hld:(loadVar ty ⟨b,0,none⟩).run P w=.ok u w:=by
       simpa [Instr.loadAt,Instr.sureAddr] using hu1
      have hat:a.tmps.getD t undef=.pointer (some ⟨b,0,none⟩):=hb;refine⟨u::vl,?_,by simp[h2.1],fun i p hp=>?_⟩
      ·rw[List.mapM_cons]
       have hres:(Yv a.tmps (.cell t ty)).run P w=.ok u w:=by
        simp only[Yv,Sem.run_bind,hat,asAddr,Sem.run_pure,Result.andThen_ok,hld]
       simp only[Sem.run_bind,hres,Sem.run_pure,Result.andThen_ok,h1]
      ·cases i with
       |zero=>simp at hp;subst hp;exact⟨_,rfl,hu2.Ag⟩
       |succ i=>simpa using h2.2 i p (by simpa using hp)
     ·rename_i hnf;obtain⟨r,hres,e⟩:=Ac.1 hp;cases e;obtain⟨vl,h1,h2⟩:=Jv hi hx rl rs' vs hrs hvs;have hk:cx.kd t=.box:=by rw[hx.kd];exact hpl.2
      obtain⟨b,hb,hcells⟩:=(Dz hk).1 (hi.slot t v hg);simp only[Lh] at hres
      split at hres
      case isFalse=>cases hres
      rename_i hcc;cases hres;cases v with
      |agg cs=>
       simp only[fits,Bool.true_and,Ak,beq_iff_eq,PV.cells] at hcc;obtain⟨rfl,hall⟩:=hcc
       have hsub:Tm (.agg cs) 0 cs.length true=some (.aggr cs):=by
        have e:(cs.drop 0).take cs.length=cs:=by simp
        have hno:sub (.agg cs) 0 cs.length true=none:=by
         simp only[sub];rw[e,if_neg]
         rintro⟨_,hf⟩
         refine hnf ?_
         simp only[Lg,fits,PV.cells,Bool.true_and,beq_self_eq_true];exact hf
        unfold Tm;rw[hno]
        simp only
        rw[e,if_pos ⟨by omega,by simpa using hall⟩]
       obtain⟨u,hu1,hu2⟩:=Nv (P:=P) hcell hcells hsub
       have hld:(loadVar ty ⟨b,0,none⟩).run P w=.ok u w:=by
        simpa [Instr.loadAt,Instr.sureAddr] using hu1
       have hat:a.tmps.getD t undef=.pointer (some ⟨b,0,none⟩):=hb;refine⟨u::vl,?_,by simp[h2.1],fun i p hp=>?_⟩
       ·rw[List.mapM_cons]
        have hres:(Yv a.tmps (.cell t ty)).run P w=.ok u w:=by
         simp only[Yv,Sem.run_bind,hat,asAddr,Sem.run_pure,Result.andThen_ok,hld]
        simp only[Sem.run_bind,hres,Sem.run_pure,Result.andThen_ok,h1]
       ·cases i with
        |zero=>simp at hp;subst hp;exact⟨_,rfl,hu2.Ag⟩
        |succ i=>simpa using h2.2 i p (by simpa using hp)
      |_=>simp[fits] at hcc
    ·cases hp
   ·cases hr
  ·cases hr
theorem Bu.AzZ{I:Imm}{bl:Bl}{v:Value}{p:PV}(h:Bu I bl w v p)(hf:p.okt=true):PZ I bl w v p:=by
 cases p with
 |aggr ps=>
  obtain⟨cs,rfl,h1,h2⟩:=h.LX;exact .inr ⟨cs,ps,rfl,rfl,h1,h2⟩
 |_=>exact .inl (h.iJ hf)
theorem Kk(hi:Inv cx G a w A σ)(hx:Dp cx fi){fn:Func}{rs:List (Nat×Option Nat)}{ps:List PV}{r:PV}(hr:Hm P fi fn.results.toList=some rs)(hp:Fz A rs=some ps)(hpk:Fu ps=some r):
  ∃v,(results fn a.tmps).run P w=.ok v w∧Bu G.I G.bl w v r:=by
 obtain⟨vl,h1,h2⟩:=Jv (P:=P) hi hx _ _ _ hr hp
 have hrun:(results fn a.tmps).run P w=.ok (if h:vl.toArray.size=1 then vl.toArray[0] else .tuple vl.toArray) w:=by
  rw[Yu,Array.mapM_eq_mapM_toList];simp only[Sem.run_bind,Sem.run_map,h1,Result.andThen_ok,Sem.run_pure]
 rw[hrun]
 match ps,hpk,h2 with
 |[p],hpk,h2=>
  cases hpk;obtain⟨v,hv,hrep⟩:=h2.2 0 _ rfl;have hl:=h2.1
  match vl,hl,hv with
  |[u],_,hv=>
   cases hv;exact⟨v,rfl,hrep⟩
 |[],hpk,h2=>
  have hl:=h2.1;have:vl=[]:=Bq.1 (by simpa using hl)
  subst this;simp only[Fu] at hpk;cases hpk;exact⟨_,rfl,.tuple rfl fun i p h=>by simp at h⟩
 |p::q::ps',hpk,h2=>
  simp only[Fu] at hpk
  split at hpk
  ·rename_i hall;cases hpk;have hl:=h2.1;have hne:¬vl.toArray.size=1:=by simp at hl ⊢;omega
   refine⟨.tuple vl.toArray,by rw[dif_neg hne],.tuple (by simpa using hl) fun i x hx=>?_⟩
   obtain⟨v,hv,hrep⟩:=h2.2 i x hx
   have:vl.toArray.getD i undef=v:=by
    rw[Ah,Cz,hv];rfl
   rw[this];exact hrep.AzZ (Ao.1 hall x (AA hx))
  ·cases hpk
theorem lH{f:FuncId}{fn:Func}{af:Cy}{n:Nat}{args:List PV}{r:PV}(hmo:P.follows .mixedOrders=true)(hfn:P.funcs[f]?=some fn)(hname:(fn.name == "runtime.NumGoroutine")=false)
  (hcf:Gf P pur fi fn=some af) (hS:EW P call) (hown:∀p∈args,p.Ag=p) (h:ZM pur call n af args σ=some (r,σ')):Jp P f args σ r σ':=by
 unfold Gf at hcf
 split at hcf
 ·rename_i c hbody
  split at hcf
  ·rename_i ac rs hac hrs
   split at hcf
   ·cases hcf
   ·rename_i hcc;cases hcf;simp only[not_or,ne_eq,Classical.not_not,Bool.not_eq_false] at hcc;obtain⟨hnt,hok,hvals⟩:=hcc;refine⟨⟨fn,hfn,hname,by rw[hbody];rfl⟩,fun m vs w G K hargs hpre=>?_⟩
    unfold ZM at h
    split at h
    ·rename_i hlen;obtain⟨hl1,hl2⟩:=hlen;dsimp only at hl1 hl2 h;have hval:∀t,t<args.length→(fi.kind t).val=true:=fun t ht=>H8 (Ao.1 hvals t (Bg.2 (by omega)))
     have hinit:=RF hok hpre hargs hown (by omega) hval fi.ps.length
     have hvs:vs.size=args.length:=by simpa using hargs.1
     have hcx:=vz hok K G w
     have hpost:∀e A1 σ1,(e=Bt.normal∨e=Bt.ret)→F4 pur call n ac (args.map some++List.replicate (fn.ntmps+fi.ps.length - args.length) none) σ=some (e,A1,σ1)→
       ((Fz A1 rs).bind fun vs=>(Fu vs).map fun r=>(r,σ1))=some (r,σ')→
       CallsIn (FW none) m P f vs w fun e w'=>∃v G',e=.returned v∧Bu G'.I G'.bl w' v r∧Aft K G w σ' G' w':=by
      intro e A1 σ1 he hrun hres;obtain⟨ps,hps,hres⟩:=AO.1 hres;obtain⟨r',hr',e1⟩:=Ac.1 hres;cases e1;refine callsIn_of_wp hfn hbody trivial ?_
      rw[←hnt] at hrun ⊢;refine Gg hS hcx hmo c ac hac n _ σ e A1 σ' hrun _ w ⟨G,hinit⟩ _ (fun a' w' hs' _=>?_)
      obtain⟨G',hi'⟩:=hs';obtain⟨v,hv,hrep⟩:=Kk (P:=P) hi' hcx hrs hps hr';have hb:=hi'.base;have haft:Aft K G w σ' G' w':=⟨hb.keep,hb.same,hb.sub,hb.new,hb.lt,hb.own,hb.grow,hb.bl,hb.os,hb.tape,hb.output,hi'.obj,hi'.len,hi'.abl⟩;rcases he with rfl | rfl
      ·exact⟨hi'.defers,v,hv,v,G',rfl,hrep,haft⟩
      ·exact⟨hi'.defers,v,hv,v,G',rfl,hrep,haft⟩
     split at h
     ·rename_i A1 σ1 hrun;exact hpost _ A1 σ1 (.inl rfl) hrun h
     ·rename_i A1 σ1 hrun;exact hpost _ A1 σ1 (.inr rfl) hrun h
     ·cases h
    ·cases h
  ·cases hcf
 ·cases hcf
end
end Go.Abs
