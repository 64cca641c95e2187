/- A part of the proof: A28 A29 A44 A30 A31 A32. -/
import Derived.Test.YtbkjmbhabkkoeaaGreatDoorKae
import Derived.Test.YtbkjmbhabkkoeaaGreatDoorKaf
import Derived.Test.YtbkjmbhabkkoeaaGreatDoorKaa

set_option linter.unusedVariables false
set_option linter.unusedSimpArgs false
namespace Go.Abs
open Go.RowKit
structure Dt(cx:Cx)(fi:FI):Prop where
 kd:∀t,cx.kd t=fi.kind t
 nt:cx.nt=fi.nt
 al:∀t,cx.al t=fi.alias t
section
variable{P:Program}{pur:FuncId→Bool}{call:Caller}{fi:FI}{cx:Cx}{G:Gh}{a:Act}{w:World}{A A':Frm}{σ σ':Sto}{rg:RG}{o:Oper}{ao:AOp}
theorem mk0{d:Option Nat}{k:AK}{args:Option (List Co)}(h:mk fi d k args=some ao):∃az,args=some az∧ao={ dst:=d,k,args:=az }∧Bt fi d=true:=by
 obtain⟨az,h1,h2,h3,_⟩:=Pn h;exact⟨az,h1,h2,h3⟩
theorem mk1{d s:Nat}{k:AK}{args:Option (List Co)}(h:mk fi (some d) k args [s]=some ao):∃az,args=some az∧ao={ dst:=some d,k,args:=az,ex:=[s] }∧CF fi d=true∧CF fi s=true∧d≠s:=by
 obtain⟨az,h1,h2,h3,h4,h5⟩:=Pn h;refine⟨az,h1,h2,h3,by simpa using h4,?_⟩
 simp at h5;exact h5
theorem mZ(hi:Inv cx G a w A σ)(hx:Dt cx fi){x:Operand}(hop:o.op=.move x)(hc:BU P pur fi rg o=some ao)(hrun:BV pur call ao A σ=some (A',σ')):Gives P cx o a w A' σ':=by
 simp only[BU,hop] at hc
 split at hc
 ·obtain⟨az,h1,rfl,h3⟩:=mk0 hc;exact lU hi hx.kd hx.nt hop h1 h3 hrun
 split at hc
 ·rename_i s t hd
  split at hc
  ·rename_i keys hk
   split at hc
   ·rename_i hcc;cases hc;rw[hd] at hrun;exact lv hi hx.kd hx.nt hop hd (by rw[hx.kd];exact hk) hcc.1 hrun
   ·cases hc
  ·split at hc
   ·rw[hd] at hc;obtain⟨az,h1,rfl,h3,h4,_⟩:=mk1 hc;exact YJ hi hx.kd hx.nt (.inl hop) hd h1 h3 h4 hrun
   ·obtain⟨az,h1,rfl,h3⟩:=mk0 hc;exact TQ hi hx.kd hx.nt (.inl hop) h1 h3 hrun
 ·obtain⟨az,h1,rfl,h3⟩:=mk0 hc;exact TQ hi hx.kd hx.nt (.inl hop) h1 h3 hrun
theorem Z7(hi:Inv cx G a w A σ)(hx:Dt cx fi){x:Operand}(hop:o.op=.assign x)(hc:BU P pur fi rg o=some ao)(hrun:BV pur call ao A σ=some (A',σ')):Gives P cx o a w A' σ':=by
 simp only[BU,hop] at hc
 split at hc
 ·split at hc
  ·rename_i s d hd;rw[hd] at hc;obtain⟨az,h1,rfl,h3,h4,h5⟩:=mk1 hc;exact kQ hi hx.kd hx.nt hop hd h1 h3 h4 h5 hrun
  ·cases hc
 split at hc
 ·rename_i s
  split at hc
  ·cases hd:o.dst with
   |none=>
    rw[hd] at hc;obtain⟨az,h1,rfl,h3,h4,h5⟩:=Pn hc;obtain⟨vs,rs,he,hs,rfl,hA⟩:=Gl rfl hrun;obtain⟨y,zs,rfl,hy,hz⟩:=AO h1;cases hz;obtain⟨p,qs,rfl,hp,hq⟩:=Aq he;cases hq;simp only[AJ] at hs
    split at hs
    ·cases hs;unfold BV at hrun;dsimp only at he hrun;rw[he] at hrun;simp only[sem,AJ] at hrun
     simp_all
    ·cases hs
   |some d=>
    rw[hd] at hc;obtain⟨az,h1,rfl,h3,h4,_⟩:=mk1 hc;exact YJ hi hx.kd hx.nt (.inr hop) hd h1 h3 h4 hrun
  ·obtain⟨az,h1,rfl,h3⟩:=mk0 hc;exact TQ hi hx.kd hx.nt (.inr hop) h1 h3 hrun
 ·obtain⟨az,h1,rfl,h3⟩:=mk0 hc;exact TQ hi hx.kd hx.nt (.inr hop) h1 h3 hrun
theorem qD(hi:Inv cx G a w A σ)(hx:Dt cx fi){t:TypeId}{x:Operand}(hop:o.op=.box t x)(hc:BU P pur fi rg o=some ao)(hrun:BV pur call ao A σ=some (A',σ')):Gives P cx o a w A' σ':=by
 simp only[BU,hop] at hc
 split at hc
 ·rename_i s nag hd hcell
  split at hc
  ·cases hc
  ·rename_i hlt;have hlt':s<cx.nt:=by rw[hx.nt];exact Nat.lt_of_not_le hlt
   rw[hd] at hc
   split at hc
   ·rename_i hk;obtain⟨az,h1,rfl⟩:=Ac.1 hc;exact ma hi hx.kd hx.al hop hd hlt' (by rw[hx.kd];exact hk) h1 hrun
   ·rename_i hk;obtain⟨az,h1,rfl⟩:=Ac.1 hc;refine qc hi hx.kd hop (fun d hd'=>?_) h1 (by rw[hd];exact hrun)
    rw[hd] at hd';cases hd';exact⟨hlt',by rw[hx.kd,hk];rfl⟩
   ·rename_i hk;obtain⟨az,h1,rfl⟩:=Ac.1 hc;exact mf hi hx.kd hop hd hlt' (by rw[hx.kd,hk];rfl) h1 hrun
   ·cases hc
 ·cases hc
theorem gu(hi:Inv cx G a w A σ)(hx:Dt cx fi){t:TypeId}(hop:o.op=.alloc t)(hc:BU P pur fi rg o=some ao)(hrun:BV pur call ao A σ=some (A',σ')):Gives P cx o a w A' σ':=by
 simp only[BU,hop] at hc
 split at hc
 ·rename_i s n ag z hd hcell hz
  split at hc
  ·cases hc
  ·rename_i hlt;have hlt':s<cx.nt:=by rw[hx.nt];exact Nat.lt_of_not_le hlt
   rw[hd] at hc
   split at hc
   ·rename_i hk;cases hc;exact p9 hi hx.al hop hd hlt' (by rw[hx.kd];exact hk) hz hrun
   ·rename_i hk
    split at hc
    ·rename_i hzn;cases hc;exact qa hi hop hd hlt' (by rw[hx.kd,hk];rfl) hz hzn hrun
    ·cases hc
   ·rename_i hk
    split at hc
    ·rename_i bt be hbt
     split at hc
     ·rename_i hbe
      split at hc
      ·cases hc;exact mq hi hop hd hlt' (by rw[hx.kd,hk];rfl) hz hrun
      ·cases hc
     ·cases hc;exact YP hi hop hd hlt' (by rw[hx.kd,hk];rfl) hz hrun
    ·cases hc;exact YP hi hop hd hlt' (by rw[hx.kd,hk];rfl) hz hrun
   ·cases hc
 ·cases hc
theorem gp(hi:Inv cx G a w A σ)(hx:Dt cx fi){t:TypeId}{ps:Array (Nat×Operand)}(hop:o.op=.build t ps)(hc:BU P pur fi rg o=some ao)(hrun:BV pur call ao A σ=some (A',σ')):Gives P cx o a w A' σ':=by
 simp only[BU,hop] at hc
 split at hc
 ·rename_i fs z hs hz
  split at hc
  ·rename_i places hpl
   split at hc
   ·rename_i pl hpp;obtain⟨az,h1,rfl,h3⟩:=mk0 hc;exact ZL hi hx.kd hx.nt hop hs hz hpl hpp h1 h3 hrun
   ·cases hc
  ·cases hc
 ·cases hc
theorem Sd(hi:Inv cx G a w A σ)(hx:Dt cx fi){t:TypeId}{n:Nat}{ps:Array (Nat×Operand)}(hop:o.op=.buildSlice t n ps)(hc:BU P pur fi rg o=some ao)(hrun:BV pur call ao A σ=some (A',σ')):Gives P cx o a w A' σ':=by
 simp only[BU,hop] at hc
 split at hc
 ·split at hc
  ·rename_i e d hs hd
   split at hc
   ·rename_i size ag hcell
    split at hc
    ·rename_i hcc;simp only[Ak,beq_iff_eq,decide_eq_true_eq] at hcc;obtain⟨⟨⟨⟨⟨c1,c2⟩,c3⟩,c4⟩,c5⟩,c6⟩:=hcc;rw[hd] at hc;obtain⟨az,h1,rfl,h3⟩:=mk0 hc;exact mo hi hx.kd hx.nt hop hd hs hcell c1 c2 c3 c4 c5 c6 h1 h3 hrun
    ·cases hc
   ·cases hc
  ·cases hc
 split at hc
 ·split at hc
  ·rename_i e hs
   split at hc
   ·rename_i ag hcell
    split at hc
    ·rename_i hcc;obtain⟨rfl,rfl⟩:=hcc;obtain⟨az,h1,rfl,h3⟩:=mk0 hc;cases h1;exact mh hi hx.kd hx.nt hop hs hcell h3 hrun
    ·cases hc
   ·cases hc
  ·cases hc
 split at hc
 ·rename_i e hs
  split at hc
  ·rename_i size ag hcell
   split at hc
   ·rename_i hcc;simp only[Ak,beq_iff_eq,decide_eq_true_eq] at hcc;obtain⟨⟨⟨⟨⟨c1,c2⟩,c3⟩,c4⟩,c5⟩,c6⟩:=hcc;obtain⟨az,h1,rfl,h3⟩:=mk0 hc;exact mg hi hx.kd hx.nt hop hs hcell c1 c2 c3 c4 c5 c6 h1 h3 hrun
   ·cases hc
  ·cases hc
 ·cases hc
theorem Oj{s:Nat}(hlt:¬fi.nt≤s)(hk:(fi.kind s).val=true):Am fi [.tmp s]=some [.slot s]:=by
 have hlt':s<fi.nt:=by omega
 simp only[Am,EM];cases h:fi.kind s<;>rw[h] at hk<;>first | (simp[SK.val] at hk;done) | simp[hlt']
theorem ng(hi:Inv cx G a w A σ)(hx:Dt cx fi){t:TypeId}{x:Operand}(hop:o.op=.load t x)(hc:BU P pur fi rg o=some ao)(hrun:BV pur call ao A σ=some (A',σ')):Gives P cx o a w A' σ':=by
 cases hd:o.dst with
 |none=>
  simp only[BU,hop,hd,Bool.and_false,Bool.false_eq_true,if_false] at hc
  split at hc
  ·rename_i n ag hcell
   split at hc
   ·rename_i s
    split at hc
    ·cases hc
    ·rename_i hlt
     split at hc
     ·rename_i hk
      split at hc
      ·simp at hc
      obtain⟨az,h1,rfl,h3⟩:=mk0 hc;cases h1;exact TS hi hx.kd hx.nt hop (by rw[hx.kd];exact hk) hcell (by rw[hd];exact h3) (by rw[hd];exact hrun)
     ·split at hc
      ·rename_i b hal
       split at hc
       ·rename_i hkb;obtain⟨az,h1,rfl,h3⟩:=mk0 hc;cases h1;exact YL hi hx.kd hx.nt hop hcell (by rw[hd];exact h3) (by rw[hd];exact hrun)
       ·cases hc
      ·split at hc
       ·obtain⟨az,h1,rfl,h3⟩:=mk0 hc;exact TR hi hx.kd hx.nt hop hcell h1 (by rw[hd];exact h3) (by rw[hd];exact hrun)
       ·split at hc
        ·cases hc
        rename_i hn0;obtain⟨az,h1,rfl,h3⟩:=mk0 hc;exact dG hi hx.kd hx.nt hop hcell hn0 h1 (by rw[hd];exact h3) (by rw[hd];exact hrun)
   ·cases hc
  ·cases hc
 |some u=>
  simp only[BU,hop,hd] at hc
  split at hc
  ·rename_i n ag hcell
   split at hc
   ·rename_i s
    split at hc
    ·cases hc
    ·rename_i hlt
     split at hc
     ·rename_i hk
      split at hc
      ·split at hc
       ·rename_i hcc;simp only[Ak] at hcc;cases hc;obtain⟨⟨h1,_⟩,rfl⟩:=hcc;exact lM hi hx.kd hx.nt hop hd (by rw[hx.kd];exact hk) hcell h1 hrun
       ·cases hc
      obtain⟨az,h1,rfl,h3⟩:=mk0 hc;cases h1;exact TS hi hx.kd hx.nt hop (by rw[hx.kd];exact hk) hcell (by rw[hd];exact h3) (by rw[hd];exact hrun)
     ·split at hc
      ·rename_i b hal
       split at hc
       ·rename_i hkb
        split at hc
        ·rename_i hcc;simp only[Ak,EE] at hcc
         split at hc
         ·rename_i hpd;cases hc;obtain⟨rfl,_⟩:=hcc;exact dF hi hx.kd hx.nt hop hd hcell hpd hrun
         ·cases hc
        ·obtain⟨az,h1,rfl,h3⟩:=mk0 hc;cases h1;exact YL hi hx.kd hx.nt hop hcell (by rw[hd];exact h3) (by rw[hd];exact hrun)
       ·cases hc
      ·split at hc
       ·rename_i hcc;obtain⟨az,h1,rfl,h3⟩:=mk0 hc;simp only[Ak,EE] at hcc;obtain⟨rfl,_⟩:=hcc;exact lN hi hx.kd hx.nt hop hd hcell h3 h1 hrun
       ·split at hc
        ·obtain⟨az,h1,rfl,h3⟩:=mk0 hc;exact TR hi hx.kd hx.nt hop hcell h1 (by rw[hd];exact h3) (by rw[hd];exact hrun)
        ·split at hc
         ·cases hc
         rename_i hn0;obtain⟨az,h1,rfl,h3⟩:=mk0 hc;exact dG hi hx.kd hx.nt hop hcell hn0 h1 (by rw[hd];exact h3) (by rw[hd];exact hrun)
   ·cases hc
  ·cases hc
theorem fU(hi:Inv cx G a w A σ)(hx:Dt cx fi){t:TypeId}{y x:Operand}(hop:o.op=.store t y x)(hc:BU P pur fi rg o=some ao)(hrun:BV pur call ao A σ=some (A',σ')):Gives P cx o a w A' σ':=by
 simp only[BU,hop] at hc
 split at hc
 ·rename_i n ag s hcell hd
  split at hc
  ·cases hc
  ·rename_i hlt
   split at hc
   ·rename_i hk;obtain⟨az,h1,rfl⟩:=Ac.1 hc;exact kU hi hx.kd hop hd (by rw[hx.kd];exact hk) hcell h1 hrun
   ·rename_i hk
    split at hc
    ·obtain⟨az,h1,rfl⟩:=Ac.1 hc;exact kW hi hx.kd hop hd (by rw[hx.kd,hk];rfl) hcell h1 hrun
    obtain⟨az,h1,rfl⟩:=Ac.1 hc;exact kV hi hx.kd hop hd (by rw[hx.kd,hk];rfl) hcell h1 hrun
   ·rename_i hnb _;have hnb':cx.kd s≠.box:=by rw[hx.kd];exact hnb
    split at hc
    ·rename_i b hal
     split at hc
     ·rename_i hkb
      split at hc
      ·rename_i u
       split at hc
       ·rename_i hcc;simp only[Ak,beq_iff_eq] at hcc;cases hc;exact dB hi hx.kd hx.nt hop hd hcell hcc.2 hcc.1.2 hrun
       ·obtain⟨az,h1,rfl⟩:=Ac.1 hc;exact YI hi hx.kd hop hd hcell h1 hrun
      ·obtain⟨az,h1,rfl⟩:=Ac.1 hc;exact YI hi hx.kd hop hd hcell h1 hrun
     ·cases hc
    ·split at hc
     ·rename_i u
      split at hc
      ·rename_i hcc;simp only[Ak,beq_iff_eq] at hcc;cases hc;exact kT hi hx.kd hx.nt hop hd hnb' hcell hcc.2 hcc.1.2 hrun
      ·obtain⟨az,h1,rfl⟩:=Ac.1 hc;exact dC hi hx.kd hop hd hnb' hcell h1 hrun
     ·obtain⟨az,h1,rfl⟩:=Ac.1 hc;exact dC hi hx.kd hop hd hnb' hcell h1 hrun
 ·cases hc
theorem gq(hi:Inv cx G a w A σ)(hx:Dt cx fi){op:BinOp}{t yt:TypeId}{x y:Operand}(hop:o.op=.binOp op t x y yt)(hc:BU P pur fi rg o=some ao)(hrun:BV pur call ao A σ=some (A',σ')):Gives P cx o a w A' σ':=by
 simp only[BU,hop] at hc
 split at hc
 ·obtain⟨az,h1,rfl,h3⟩:=mk0 hc;exact Pe hi hx.kd hx.nt hop (by simp) (by simp) h1 h3 hrun
 ·obtain⟨az,h1,rfl,h3⟩:=mk0 hc;exact Pe hi hx.kd hx.nt hop (by simp) (by simp) h1 h3 hrun
 ·rename_i ht;obtain⟨az,h1,rfl,h3⟩:=mk0 hc;exact Pe hi hx.kd hx.nt hop (fun _=>ht) (by simp) h1 h3 hrun
 ·rename_i ps rs v ht;obtain⟨az,h1,rfl,h3⟩:=mk0 hc;exact Pe hi hx.kd hx.nt hop (by simp) (fun _=>⟨ps,rs,v,ht⟩) h1 h3 hrun
 ·rename_i e ht
  split at hc
  ·obtain⟨az,h1,rfl,h3⟩:=mk0 hc;exact Vi hi hx.kd hx.nt (ne:=false) rfl hop ht h1 h3 hrun
  ·obtain⟨az,h1,rfl,h3⟩:=mk0 hc;exact Vi hi hx.kd hx.nt (ne:=true) rfl hop ht h1 h3 hrun
  ·obtain⟨az,h1,rfl,h3⟩:=mk0 hc;obtain⟨vs,rs,_,hs,_,_⟩:=Gl rfl hrun;cases vs<;>simp[AJ] at hs
 ·rename_i e ht
  split at hc
  ·obtain⟨az,h1,rfl,h3⟩:=mk0 hc;exact Vh hi hx.kd hx.nt (ne:=false) rfl hop ht h1 h3 hrun
  ·obtain⟨az,h1,rfl,h3⟩:=mk0 hc;exact Vh hi hx.kd hx.nt (ne:=true) rfl hop ht h1 h3 hrun
  ·obtain⟨az,h1,rfl,h3⟩:=mk0 hc;obtain⟨vs,rs,_,hs,_,_⟩:=Gl rfl hrun;cases vs<;>simp[AJ] at hs
 ·split at hc
  ·rename_i ts hts
   split at hc
   ·obtain⟨az,h1,rfl,h3⟩:=mk0 hc;exact YQ hi hx.kd hx.nt (ne:=false) rfl hop hts h1 h3 hrun
   ·obtain⟨az,h1,rfl,h3⟩:=mk0 hc;exact YQ hi hx.kd hx.nt (ne:=true) rfl hop hts h1 h3 hrun
   ·obtain⟨az,h1,rfl,h3⟩:=mk0 hc;obtain⟨vs,rs,_,hs,_,_⟩:=Gl rfl hrun;cases vs<;>simp[AJ] at hs
  ·obtain⟨az,h1,rfl,h3⟩:=mk0 hc;obtain⟨vs,rs,_,hs,_,_⟩:=Gl rfl hrun;cases vs<;>simp[AJ] at hs
theorem XD(hi:Inv cx G a w A σ)(hx:Dt cx fi){s t:TypeId}{x:Operand}(hop:o.op=.convert s t x)(hc:BU P pur fi rg o=some ao)(hrun:BV pur call ao A σ=some (A',σ')):Gives P cx o a w A' σ':=by
 simp only[BU,hop] at hc
 split at hc
 ·rename_i hs ht;obtain⟨az,h1,rfl,h3⟩:=mk0 hc;exact l6 hi hx.kd hx.nt hop hs ht h1 h3 hrun
 ·rename_i e hs ht
  split at hc
  ·rename_i he hcell;obtain⟨az,h1,rfl,h3⟩:=mk0 hc;exact l8 hi hx.kd hx.nt hop hs ht he h1 h3 hrun
  ·cases hc
 ·rename_i e' e hs ht
  split at hc
  ·rename_i u d he hd
   split at hc
   ·rename_i hst;rw[hd] at hc;obtain⟨az,h1,rfl,h3,h4,h5⟩:=mk1 hc;exact l7 hi hx.kd hx.nt hop hst hd hs ht he h1 h3 h4 h5 hrun
   ·cases hc
  ·cases hc
 ·cases hc
theorem Z6(hi:Inv cx G a w A σ)(hx:Dt cx fi){t:TypeId}{m:Operand}{k x:Operand}(hop:o.op=.insert t m k x)(hc:BU P pur fi rg o=some ao)(hrun:BV pur call ao A σ=some (A',σ')):Gives P cx o a w A' σ':=by
 cases m with
 |tmp m=>
  simp only[BU,hop] at hc
  split at hc
  ·rename_i kt et keys s ht hkm hps hd
   split at hc
   ·rename_i ik m' key hkt hks
    split at hc
    ·rename_i hcc;obtain⟨c1,rfl,c3,c4⟩:=hcc;obtain⟨az,h1,rfl⟩:=Ac.1 hc;exact YM hi hx.kd hop hd ht hkt (.inl ⟨ik,rfl⟩) c1 (by rw[hx.kd];exact hkm) (by rw[hx.kd];exact hks) h1 hrun
    ·cases hc
   ·rename_i m' key hkt hks
    split at hc
    ·rename_i hcc;obtain⟨c1,rfl,c3,c4⟩:=hcc;obtain⟨az,h1,rfl⟩:=Ac.1 hc;exact YM hi hx.kd hop hd ht hkt (.inr rfl) c1 (by rw[hx.kd];exact hkm) (by rw[hx.kd];exact hks) h1 hrun
    ·cases hc
   ·cases hc
  ·rename_i kt et ht hkm hd
   split at hc
   ·rename_i kd hkd;obtain⟨az,h1,rfl,h3⟩:=mk0 hc;rw[hd] at hrun;exact YH hi hx.kd (.inr hop) hd ht hkd h1 hrun
   ·cases hc
  ·cases hc
 |_=>simp[BU,hop] at hc
theorem XC(hi:Inv cx G a w A σ)(hx:Dt cx fi){t:TypeId}{r:Option Operand}(hop:o.op=.makeMap t r)(hc:BU P pur fi rg o=some ao)(hrun:BV pur call ao A σ=some (A',σ')):Gives P cx o a w A' σ':=by
 cases r with
 |some r=>simp[BU,hop] at hc
 |none=>
  simp only[BU,hop] at hc
  split at hc
  ·rename_i s kt et hd ht
   split at hc
   ·split at hc
    ·rename_i kd z hkd hz;obtain⟨az,h1,rfl,h3⟩:=mk0 hc;cases h1;rw[hd] at h3 hrun;exact lH hi hx.kd hx.nt hop hd h3 hrun
    ·cases hc
   ·rename_i keys hk
    split at hc
    ·rename_i hlt;cases hc;rw[hd] at hrun;exact lF hi hx.kd hop hd (by rw[hx.nt];exact hlt) (by rw[hx.kd];exact hk) hrun
    ·cases hc
   ·cases hc
  ·cases hc
theorem Z5(hi:Inv cx G a w A σ)(hx:Dt cx fi){t:TypeId}{x i:Operand}{ok:Bool}(hop:o.op=.lookup t x i ok)(hc:BU P pur fi rg o=some ao)(hrun:BV pur call ao A σ=some (A',σ')):Gives P cx o a w A' σ':=by
 simp only[BU,hop] at hc
 split at hc
 ·split at hc
  ·rename_i kt et ht
   split at hc
   ·rename_i kd z hkt hz;obtain⟨az,h1,rfl,h3⟩:=mk0 hc;exact lL hi hx.kd hx.nt hop ht hkt hz h1 h3 hrun
   ·cases hc
  ·cases hc
 split at hc
 ·rename_i kt et ht
  split at hc
  ·rename_i ik z hkt hz;obtain⟨az,h1,rfl,h3⟩:=mk0 hc;exact Vk hi hx.kd hx.nt hop ht hkt (.inl ⟨ik,rfl⟩) hz h1 h3 hrun
  ·rename_i z hkt hz;obtain⟨az,h1,rfl,h3⟩:=mk0 hc;exact Vk hi hx.kd hx.nt hop ht hkt (.inr rfl) hz h1 h3 hrun
  ·cases hc
 ·cases hc
theorem ni(hi:Inv cx G a w A σ)(hx:Dt cx fi){t:TypeId}{x:Operand}{k1 k2:IntKind}{p q:Int}(hop:o.op=.slice t x none (some (.const (.int k1 p))) (some (.const (.int k2 q))))(hc:BU P pur fi rg o=some ao)(hrun:BV pur call ao A σ=some (A',σ')):Gives P cx o a w A' σ':=by
 simp only[BU,hop] at hc
 split at hc
 case isFalse=>cases hc
 rename_i hpq;obtain⟨rfl,rfl⟩:=hpq
 split at hc
 ·rename_i e ht
  split at hc
  ·rename_i ag hcell;obtain⟨az,h1,rfl,h3⟩:=mk0 hc;exact dJ hi hx.kd hx.nt hop ht hcell h1 h3 hrun
  ·cases hc
 ·cases hc
theorem Ue(hi:Inv cx G a w A σ)(hx:Dt cx fi){t:TypeId}{l c:Operand}(hop:o.op=.makeSlice t l c)(hc:BU P pur fi rg o=some ao)(hrun:BV pur call ao A σ=some (A',σ')):Gives P cx o a w A' σ':=by
 simp only[BU,hop] at hc
 split at hc
 ·rename_i e d ht hd
  split at hc
  ·rename_i it z hit hz
   split at hc
   ·rename_i hcc;rw[hd] at hc
    split at hc
    ·obtain⟨az,h1,rfl,h3⟩:=mk0 hc;exact lC hi hx.kd hx.nt hop hd ht hit hz hcc.1 hcc.2.1 hcc.2.2 h1 h3 hrun
    obtain⟨az,h1,rfl,h3⟩:=mk0 hc;exact lD hi hx.kd hx.nt hop hd ht hit hz hcc.1 hcc.2.1 hcc.2.2 h1 h3 hrun
   ·cases hc
  ·cases hc
 ·cases hc
theorem fZ(hi:Inv cx G a w A σ)(hx:Dt cx fi){t:TypeId}{x:Operand}{lo hi' mx:Option Operand}(hop:o.op=.slice t x lo hi' mx)(hc:BU P pur fi rg o=some ao)(hrun:BV pur call ao A σ=some (A',σ')):Gives P cx o a w A' σ':=by
 cases mx with
 |some mx=>
  have hbad:∃k1 p k2 q,lo=none∧hi'=some (.const (.int k1 p))∧mx=.const (.int k2 q):=by
   simp only[BU,hop] at hc
   split at hc<;>simp_all
  obtain⟨k1,p,k2,q,rfl,rfl,rfl⟩:=hbad;exact ni hi hx hop hc hrun
 |none=>
  simp only[BU,hop] at hc
  split at hc
  ·rename_i ht
   split at hc
   ·rename_i az hcs;obtain⟨as',h1,rfl,h3⟩:=mk0 hc;cases h1;exact kX hi hx.kd hx.nt hop ht hcs h3 hrun
   ·cases hc
  ·rename_i e ht
   split at hc
   ·rename_i size ag az hcell hcs
    split at hc
    ·obtain⟨as',h1,rfl,h3⟩:=mk0 hc;cases h1;exact kN hi hx.kd hx.nt hop ht hcell hcs h3 hrun
    ·cases hc
   ·cases hc
  ·cases hc
theorem YN(hi:Inv cx G a w A σ)(hx:Dt cx fi){t:TypeId}{s u f:Nat}(hop:o.op=.fieldAddr t (.tmp s) f)(hd:o.dst=some u)
  {fs:Array Field} {fl:Field} (hs:P.underlying t=some (.struct fs)) (hf:fs[f]?=some fl) {n:Nat} {ag:Bool} (hn:Cf P fl.type=some (n,ag)) (hn0:n≠0) (hlt:¬fi.nt≤s) (hnb:fi.kind s≠.box)
  (hal:∀b,fi.alias s=some b→fi.alias u=some b) (hpd:CF fi u=true) (hrun:BV pur call { dst:=some u,k:=.p (.fa fl.offset n ag),args:=[.slot s] } A σ=some (A',σ')):Gives P cx o a w A' σ':=by
 by_cases hl:∃d' off,A.get s=some (.lref d' off)
 ·obtain⟨d',off,hg⟩:=hl;have hal1:=(LD hi hg).2.1;rw[hx.al] at hal1;exact dI hi hx.kd hx.nt hx.al hop hd hs hf hn hn0 hal1 (hal _ hal1) hpd hg hrun
 ·have hval:(fi.kind s).val=true:=by
   obtain⟨vs,rs,he,hsem,_,_⟩:=Gl rfl hrun;obtain⟨p,qs,rfl,hp,hq⟩:=Aq he;cases hq;obtain⟨hg,_⟩:=Du hp;have hsl:=hi.slot s p hg;rw[←hx.kd];cases hk:cx.kd s with
   |box=>exact absurd (by rw[←hx.kd];exact hk) hnb
   |mapb keys=>
    have:=((F9 hk).1 hsl).1;subst this;simp[AJ,faV] at hsem
   |ent m key=>
    obtain⟨_,_,_,_,rfl,_⟩:=(GD hk).1 hsl;simp[AJ,faV] at hsem
   |_=>rfl
  refine qb hi hx.kd hx.nt hop hs hf hn hn0 ?_ (Oj hlt hval) (by rw[hd];exact hpd) (by rw[hd];exact hrun)
  rintro p d off rfl y hy he
  have:=Oj hlt hval;simp only[Am,hy] at this;cases this;exact hl ⟨d,off,(Du he).1⟩
theorem Ug(hi:Inv cx G a w A σ)(hx:Dt cx fi){t:TypeId}{x:Operand}{f:Nat}(hop:o.op=.fieldAddr t x f)(hc:BU P pur fi rg o=some ao)(hrun:BV pur call ao A σ=some (A',σ')):Gives P cx o a w A' σ':=by
 simp only[BU,hop] at hc
 split at hc
 ·rename_i fs ht
  split at hc
  ·rename_i fl hf
   split at hc
   ·rename_i n ag hcell
    split at hc
    ·cases hc
    ·rename_i hn0
     split at hc
     ·rename_i s u hd
      split at hc
      ·cases hc
      ·rename_i hlt
       split at hc
       ·rename_i hk
        split at hc
        ·rename_i hal;obtain⟨az,h1,rfl,h3⟩:=mk0 hc;cases h1;rw[hd] at h3 hrun;exact lW hi hx.kd hx.nt hx.al hop hd ht hf hcell hn0 (by rw[hx.kd];exact hk) hal h3 hrun
        ·cases hc
       ·rename_i hnb
        split at hc
        ·rename_i b hal
         split at hc
         ·rename_i hcc;obtain⟨az,h1,rfl,h3⟩:=mk0 hc;cases h1;rw[hd] at h3 hrun;exact YN hi hx hop hd ht hf hcell hn0 hlt hnb (fun b' hb'=>by rw[hal] at hb';cases hb';exact hcc.1) h3 hrun
         ·cases hc
        ·rename_i hal;obtain⟨az,h1,rfl,h3⟩:=mk0 hc;cases h1;rw[hd] at h3 hrun;exact YN hi hx hop hd ht hf hcell hn0 hlt hnb (fun b' hb'=>by rw[hal] at hb';cases hb') h3 hrun
     ·cases hc
   ·cases hc
  ·cases hc
 ·cases hc
theorem Vl(hi:Inv cx G a w A σ)(hx:Dt cx fi){t e:TypeId}{s u:Nat}{i:Operand}(hop:o.op=.indexAddr t (.tmp s) i)(hd:o.dst=some u)
  {n:Nat} (ht:P.underlying t=some (.array n e)) {size:Nat} {ag:Bool} (hsz:Cf P e=some (size,ag)) (hlt:¬fi.nt≤s) (hnb:fi.kind s≠.box)
  (hal:∀b,fi.alias s=some b→fi.alias u=some b) (hpd:CF fi u=true) {az:List Co} (hc:Am fi [i]=some az) (hrun:BV pur call { dst:=some u,k:=.p (.ixa n size ag),args:=.slot s::az } A σ=some (A',σ')):Gives P cx o a w A' σ':=by
 by_cases hl:∃d' off,A.get s=some (.lref d' off)
 ·obtain⟨d',off,hg⟩:=hl;have hal1:=(LD hi hg).2.1;rw[hx.al] at hal1;exact dH hi hx.kd hx.nt hx.al hop hd ht hsz hal1 (hal _ hal1) hpd hg hc hrun
 ·have hval:(fi.kind s).val=true:=by
   obtain⟨vs,rs,he,hsem,_,_⟩:=Gl rfl hrun;obtain⟨p,qs,rfl,hp,hq⟩:=Aq he;obtain⟨y,zs,rfl,hy,hz⟩:=AO hc;cases hz;obtain⟨q,qs,rfl,hp2,hq⟩:=Aq hq;cases hq;obtain⟨hg,_⟩:=Du hp;have hsl:=hi.slot s p hg;rw[←hx.kd];have hno:∀p,ixV n size ag p q=none→AJ (.ixa n size ag) [p,q]=none:=fun p h=>by simp only[AJ,h];rfl
   cases hk:cx.kd s with
   |box=>exact absurd (by rw[←hx.kd];exact hk) hnb
   |mapb keys=>
    have:=((F9 hk).1 hsl).1;subst this;rw[hno _ (by unfold ixV;split<;>first | rfl | (split<;>rfl))] at hsem;cases hsem
   |ent m key=>
    obtain⟨_,_,_,_,rfl,_⟩:=(GD hk).1 hsl;rw[hno _ (by unfold ixV;split<;>first | rfl | (split<;>rfl))] at hsem;cases hsem
   |_=>rfl
  have hcs:=Oj hlt hval
  have hc2:Am fi [.tmp s,i]=some (.slot s::az):=by
   simp only[Am] at hcs hc ⊢
   split at hcs
   ·rename_i y1 ys1 q1 q2;cases hcs;rw[q1]
    split at hc
    ·rename_i y2 ys2 q3 q4;cases hc;cases q4;rfl
    ·cases hc
   ·cases hcs
  refine lS hi hx.kd hx.nt hop ht hsz ?_ hc2 (by rw[hd];exact hpd) (by rw[hd];exact hrun)
  rintro p d off rfl y hy he
  simp only[Am,hy] at hcs;cases hcs;exact hl ⟨d,off,(Du he).1⟩
theorem Uf(hi:Inv cx G a w A σ)(hx:Dt cx fi){t:TypeId}{x i:Operand}(hop:o.op=.indexAddr t x i)(hc:BU P pur fi rg o=some ao)(hrun:BV pur call ao A σ=some (A',σ')):Gives P cx o a w A' σ':=by
 simp only[BU,hop] at hc
 split at hc
 ·rename_i e ht
  split at hc
  ·rename_i size ag hcell
   split at hc
   ·obtain⟨az,h1,rfl,h3⟩:=mk0 hc;exact lT hi hx.kd hx.nt hop ht hcell h1 h3 hrun
   ·cases hc
  ·cases hc
 ·rename_i n e ht
  split at hc
  ·rename_i size ag hcell
   split at hc
   ·cases hc
   ·split at hc
    ·rename_i s u hd
     split at hc
     ·cases hc
     ·rename_i hlt
      split at hc
      ·rename_i hk
       split at hc
       ·rename_i hal;obtain⟨az,h1,rfl,h3⟩:=mk0 hc;obtain⟨as',h1',rfl⟩:=Ac.1 h1;rw[hd] at h3 hrun;exact lQ hi hx.kd hx.nt hx.al hop hd ht hcell (by rw[hx.kd];exact hk) hal h3 h1' hrun
       ·cases hc
      ·rename_i hnb
       split at hc
       ·rename_i b hal
        split at hc
        ·rename_i hcc;obtain⟨az,h1,rfl,h3⟩:=mk0 hc;obtain⟨as',h1',rfl⟩:=Ac.1 h1;rw[hd] at h3 hrun;exact Vl hi hx hop hd ht hcell hlt hnb (fun b' hb'=>by rw[hal] at hb';cases hb';exact hcc.1) h3 h1' hrun
        ·cases hc
       ·rename_i hal;obtain⟨az,h1,rfl,h3⟩:=mk0 hc;obtain⟨as',h1',rfl⟩:=Ac.1 h1;rw[hd] at h3 hrun;exact Vl hi hx hop hd ht hcell hlt hnb (fun b' hb'=>by rw[hal] at hb';cases hb') h3 h1' hrun
    ·cases hc
  ·cases hc
 ·cases hc
theorem nk{ro:Option Nat}{n:Nat}{K:Act→World→Prop}{Q:Exit→Act→World→Prop}(hS:EX P call)(hi:Inv cx G a w A σ)(hx:Dt cx fi){c:Call}(hop:o.op=.call c)(hc:BU P pur fi rg o=some ao)
  (hrun:BV pur call ao A σ=some (A',σ')) (hk:∀a' w',Sim cx a' w' A' σ'→Kept o.dst a a'→K a' w'):o.wpIn (FW ro) n P a w K Q:=by
 have hnd:∀c',o.op≠.defer c':=by simp[hop]
 simp only[BU,hop] at hc
 split at hc
 ·rename_i f hcal
  split at hc
  ·obtain⟨az,h1,rfl,h3⟩:=mk0 hc;exact tY hS hi hx.kd hx.nt hop hcal h1 h3 hrun hk
  split at hc
  ·rename_i hm;obtain⟨d,hd⟩:=CU.1 hm.2;obtain⟨az,h1,rfl,h3⟩:=mk0 hc;exact ZJ hS hi hx.kd hx.nt hop hcal hd h1 h3 hrun hk
  ·obtain⟨az,h1,rfl,h3⟩:=mk0 hc;exact dL hS hi hx.kd hx.nt hop hcal h1 h3 hrun hk
 ·rename_i x _ hcal;obtain⟨az,h1,rfl,h3⟩:=mk0 hc;exact ZK hS hi hx.kd hx.nt hop hcal h1 h3 hrun hk
 ·rename_i hcal
  split at hc
  ·rename_i ht;obtain⟨az,h1,rfl,h3⟩:=mk0 hc;exact(YK hi hx.kd hx.nt hop hcal (.inl ⟨rfl,ht⟩) h1 h3 hrun).wp hnd hk
  ·rename_i e ht;obtain⟨az,h1,rfl,h3⟩:=mk0 hc;exact(YK hi hx.kd hx.nt hop hcal (.inr ⟨rfl,e,ht⟩) h1 h3 hrun).wp hnd hk
  ·rename_i kt et ht;obtain⟨az,h1,rfl,h3⟩:=mk0 hc;exact(lK hi hx.kd hx.nt hop hcal ht h1 h3 hrun).wp hnd hk
  ·cases hc
 ·rename_i hcal
  split at hc
  ·rename_i e ht;obtain⟨az,h1,rfl,h3⟩:=mk0 hc;exact(dK hi hx.kd hx.nt hop hcal ⟨e,ht⟩ h1 h3 hrun).wp hnd hk
  ·cases hc
 ·rename_i hcal
  split at hc
  ·split at hc
   ·rename_i s x y z d htys hargs hd;have htys':c.argTypes=#[s,x]:=by apply BZ.1;exact htys
    have hargs':c.args=#[y,z]:=by apply BZ.1;exact hargs
    split at hc
    ·rename_i e e' hs hxx
     split at hc
     ·rename_i it hit
      split at hc
      ·rename_i hcc;rw[hd] at hc;obtain⟨az,h1,rfl,h3⟩:=mk0 hc;exact(dN hi hx.kd hx.nt hop hcal hargs' htys' hd hs ⟨e',hxx⟩ hit hcc.1 hcc.2.1 hcc.2.2 h1 h3 hrun).wp hnd hk
      ·cases hc
     ·cases hc
    ·rename_i e k' hs hxx
     split at hc
     ·rename_i it zp hit hz
      split at hc
      ·rename_i hcc;rw[hd] at hc;obtain⟨az,h1,rfl,h3⟩:=mk0 hc;exact(dM hi hx.kd hx.nt hop hcal hargs' htys' hd hs hxx hit hz hcc.1 hcc.2.1 hcc.2.2 h1 h3 hrun).wp hnd hk
      ·cases hc
     ·cases hc
    ·cases hc
   ·cases hc
  split at hc
  ·rename_i s x u y d htys hargs hd;have htys':c.argTypes=#[s,x]:=by apply BZ.1;exact htys
   have hargs':c.args=#[.tmp u,y]:=by apply BZ.1;exact hargs
   split at hc
   ·rename_i e e' hs hxx
    split at hc
    ·rename_i it hit
     split at hc
     ·rename_i hcc;rw[hd] at hc;obtain⟨az,h1,rfl,h3,h4,h5⟩:=mk1 hc;exact(YO hi hx.kd hx.nt hop hcal hargs' htys' hd hs (.inl ⟨e',hxx⟩) hit hcc.1 hcc.2.1 hcc.2.2 h1 h3 h4 h5 hrun).wp hnd hk
     ·cases hc
    ·cases hc
   ·rename_i e hs hxx
    split at hc
    ·rename_i it hit
     split at hc
     ·rename_i hcc;rw[hd] at hc;obtain⟨az,h1,rfl,h3,h4,h5⟩:=mk1 hc;exact(YO hi hx.kd hx.nt hop hcal hargs' htys' hd hs (.inr hxx) hit (by omega) hcc.2.1 hcc.2.2 h1 h3 h4 h5 hrun).wp hnd hk
     ·cases hc
    ·cases hc
   ·cases hc
  ·cases hc
 ·rename_i hcal
  split at hc
  ·obtain⟨az,h1,rfl,h3⟩:=mk0 hc;exact(lI hi hx.kd hx.nt hop hcal h1 h3 hrun).wp hnd hk
  ·cases hc
 ·rename_i hcal
  split at hc
  ·obtain⟨az,h1,rfl,h3⟩:=mk0 hc;exact(lJ hi hx.kd hx.nt hop hcal h1 h3 hrun).wp hnd hk
  ·cases hc
 ·cases hc
theorem fV{ro:Option Nat}{n:Nat}{K:Act→World→Prop}{Q:Exit→Act→World→Prop}(hS:EX P call)(hi:Inv cx G a w A σ)(hx:Dt cx fi)(hc:BU P pur fi rg o=some ao)
  (hrun:BV pur call ao A σ=some (A',σ')) (hk:∀a' w',Sim cx a' w' A' σ'→Kept o.dst a a'→K a' w'):o.wpIn (FW ro) n P a w K Q:=by
 have gv:Gives P cx o a w A' σ'→(∀c',o.op≠.defer c')→o.wpIn (FW ro) n P a w K Q:=fun h hd=>h.wp hd hk
 cases hop:o.op with
 |move x=>exact gv (mZ hi hx hop hc hrun) (by simp[hop])
 |assign x=>exact gv (Z7 hi hx hop hc hrun) (by simp[hop])
 |pick c x y=>
  refine gv ?_ (by simp[hop])
  simp only[BU,hop] at hc;obtain⟨az,h1,rfl,h3⟩:=mk0 hc;exact dE hi hx.kd hx.nt hop h1 h3 hrun
 |box t x=>exact gv (qD hi hx hop hc hrun) (by simp[hop])
 |alloc t=>exact gv (gu hi hx hop hc hrun) (by simp[hop])
 |build t ps=>exact gv (gp hi hx hop hc hrun) (by simp[hop])
 |buildSlice t n ps=>exact gv (Sd hi hx hop hc hrun) (by simp[hop])
 |load t x=>exact gv (ng hi hx hop hc hrun) (by simp[hop])
 |store t x y=>exact gv (fU hi hx hop hc hrun) (by simp[hop])
 |nilCheck x=>
  refine gv ?_ (by simp[hop])
  simp only[BU,hop] at hc;obtain⟨az,h1,rfl,h3⟩:=mk0 hc;exact l9 hi hx.kd hx.nt hop h1 h3 hrun
 |binOp op t x y yt=>exact gv (gq hi hx hop hc hrun) (by simp[hop])
 |unOp op t x=>
  refine gv ?_ (by simp[hop])
  cases op with
  |not=>
   simp only[BU,hop] at hc;obtain⟨az,h1,rfl,h3⟩:=mk0 hc;exact ll hi hx.kd hx.nt hop h1 h3 hrun
  |_=>simp[BU,hop] at hc
 |convert s t x=>exact gv (XD hi hx hop hc hrun) (by simp[hop])
 |makeFunc fn first cap=>
  refine gv ?_ (by simp[hop])
  cases fn with
  |func f=>
   simp only[BU,hop] at hc;obtain⟨az,h1,rfl,h3⟩:=mk0 hc;exact lG hi hx.kd hx.nt hop h1 h3 hrun
  |_=>simp[BU,hop] at hc
 |makeMap t r=>exact gv (XC hi hx hop hc hrun) (by simp[hop])
 |makeSlice t l c=>exact gv (Ue hi hx hop hc hrun) (by simp[hop])
 |insert t m k x=>exact gv (Z6 hi hx hop hc hrun) (by simp[hop])
 |lookup t x i ok=>exact gv (Z5 hi hx hop hc hrun) (by simp[hop])
 |mapUpdate t m k x=>
  refine gv ?_ (by simp[hop])
  simp only[BU,hop] at hc
  split at hc
  ·rename_i kt et ht
   split at hc
   ·rename_i kd hkt hd;obtain⟨az,h1,rfl,h3⟩:=mk0 hc;rw[hd] at hrun;exact YH hi hx.kd (.inl hop) hd ht hkt h1 hrun
   ·cases hc
  ·cases hc
 |mapEntry t m k=>
  refine gv ?_ (by simp[hop])
  simp only[BU,hop] at hc
  split at hc
  ·rename_i kt et ht
   split at hc
   ·rename_i kd z hkt hz;obtain⟨az,h1,rfl,h3⟩:=mk0 hc;exact lZ hi hx.kd hx.nt hop ht hkt hz h1 h3 hrun
   ·cases hc
  ·cases hc
 |entryStore t m i x=>
  refine gv ?_ (by simp[hop])
  simp only[BU,hop] at hc
  split at hc
  ·rename_i hd;obtain⟨az,h1,rfl,h3⟩:=mk0 hc;rw[hd] at hrun;exact lY hi hx.kd hop hd h1 hrun
  ·cases hc
 |indexAddr t x i=>exact gv (Uf hi hx hop hc hrun) (by simp[hop])
 |index t x i=>
  refine gv ?_ (by simp[hop])
  simp only[BU,hop] at hc
  split at hc
  ·rename_i ht;obtain⟨az,h1,rfl,h3⟩:=mk0 hc;exact dD hi hx.kd hx.nt hop ht h1 h3 hrun
  ·cases hc
 |slice t x lo hi' mx=>exact gv (fZ hi hx hop hc hrun) (by simp[hop])
 |fieldAddr t x f=>exact gv (Ug hi hx hop hc hrun) (by simp[hop])
 |field t x f=>
  refine gv ?_ (by simp[hop])
  simp only[BU,hop] at hc
  split at hc
  ·rename_i fs hs
   split at hc
   ·rename_i fl hf
    split at hc
    ·rename_i n ag hn;obtain⟨az,h1,rfl,h3⟩:=mk0 hc;exact lV hi hx.kd hx.nt hop hs hf hn h1 h3 hrun
    ·cases hc
   ·cases hc
  ·cases hc
 |extract x i=>
  refine gv ?_ (by simp[hop])
  simp only[BU,hop] at hc;obtain⟨az,h1,rfl,h3⟩:=mk0 hc;exact lX hi hx.kd hx.nt hop h1 h3 hrun
 |call c=>exact nk hS hi hx hop hc hrun hk
 |range t x=>
  refine gv ?_ (by simp[hop])
  simp only[BU,hop] at hc
  split at hc
  ·rename_i kt et d ht hd;rw[hd] at hc;obtain⟨az,h1,rfl,h3⟩:=mk0 hc;exact kY hi hx.kd hx.nt hop ht hd h3 h1 hrun
  ·cases hc
 |next x b=>
  refine gv ?_ (by simp[hop])
  cases b with
  |false=>
   simp only[BU,hop] at hc;obtain⟨az,h1,rfl,h3⟩:=mk0 hc;exact lh hi hx.kd hx.nt hop h1 h3 hrun
  |true=>simp[BU,hop] at hc
 |entry x=>
  refine gv ?_ (by simp[hop])
  simp only[BU,hop] at hc;obtain⟨az,h1,rfl,h3⟩:=mk0 hc;exact l5 hi hx.kd hx.nt hop h1 h3 hrun
 |panic x=>
  simp only[BU,hop] at hc;obtain⟨az,h1,rfl,h3⟩:=mk0 hc;obtain⟨vs,rs,_,hs,_,_⟩:=Gl rfl hrun;cases vs<;>simp[AJ] at hs
 |makeInterface t x=>
  simp only[BU,hop] at hc;obtain⟨az,h1,rfl,h3⟩:=mk0 hc;obtain⟨vs,rs,_,hs,_,_⟩:=Gl rfl hrun;cases vs<;>simp[AJ] at hs
 |_=>simp[BU,hop] at hc
end
end Go.Abs

namespace Go.Abs
open Go.RowKit
section
variable{P:Program}{pur:FuncId→Bool}{call:Caller}{fi:FI}{cx:Cx}{G:Gh}{a:Act}{w:World}{A A':Frm}{σ σ':Sto}{rg:RG}{o:Oper}{ao:AOp}{ops:Array Oper}
theorem qN{d:Option Nat}{k:AK}{args:Option (List Co)}{ex:List Nat}(h:mk fi d k args ex=some ao):ao.dst=d:=by
 obtain⟨az,_,rfl,_⟩:=Pn h;rfl
theorem Yf(h:BU P pur fi rg o=some ao):ao.dst=o.dst:=by
 unfold BU at h;dsimp only at h
 repeat' (split at h)
 all_goals first
  |(cases h;done)
  |exact qN h
  |(cases h;rfl)
  |(cases h;simp_all;done)
  |(obtain⟨_,_,rfl⟩:=Ac.1 h;rfl)
  |(obtain⟨_,_,rfl⟩:=Ac.1 h;simp_all;done)
theorem OV(h:LK P pur fi rg o=some ao):ao.dst=o.dst:=by
 unfold LK at h
 split at h
 ·rename_i a hc;cases h;exact Yf hc
 ·cases h;rfl
theorem Z4{ro:Option Nat}{n:Nat}{K:Act→World→Prop}{Q:Exit→Act→World→Prop}(hS:EX P call)(hi:Inv cx G a w A σ)(hx:Dt cx fi)(hc:LK P pur fi rg o=some ao)
  (hrun:BV pur call ao A σ=some (A',σ')) (hk:∀a' w',Sim cx a' w' A' σ'→Kept o.dst a a'→K a' w'):o.wpIn (FW ro) n P a w K Q:=by
 unfold LK at hc
 split at hc
 ·rename_i a' hc';cases hc;exact fV hS hi hx hc' hrun hk
 ·cases hc;obtain⟨vs,rs,_,hs,_⟩:=GX hrun;cases vs<;>simp[sem,AJ] at hs
def kw(P:Program)(pur:FuncId→Bool)(fi:FI)(ops:Array Oper)(o:Oper)(ao:AOp):Prop:=
 ∃rg a,LK P pur fi rg o=some a∧JO fi ops o.guard=some ao.guard∧ao={ a with guard:=ao.guard }∧(ao.guard.isSome=true→a.ex=[]∧a.clr=[]∧Bt fi a.dst=true)
theorem JB{id:Nat}{rg:RG}:∀(l:List Oper) (j:Nat) (az:List AOp),Nw P pur fi id rg ops j l=some az→
  az.length=l.length∧∀(i:Nat) (o:Oper) (ao:AOp),l[i]?=some o→az[i]?=some ao→kw P pur fi ops o ao
 |[],j,az,h=>by cases h;exact⟨rfl,fun i o ao h=>by simp at h⟩
 |o::l,j,az,h=>by
  simp only[Nw] at h
  split at h
  ·rename_i a g as' h1 h2 h3
   split at h
   ·cases h
   ·rename_i hc;cases h;obtain⟨hl,hr⟩:=JB l (j+1) as' h3;refine⟨by simp[hl],fun i o' ao' ho ha=>?_⟩
    cases i with
    |zero=>
     simp at ho ha;subst ho ha;refine⟨_,a,h1,h2,rfl,fun hg=>?_⟩
     have hc':¬(a.ex≠[]∨a.clr≠[]∨Bt fi a.dst=false):=fun h=>hc ⟨hg,h⟩
     simp only[not_or,ne_eq,Classical.not_not,Bool.not_eq_false] at hc';exact hc'
    |succ i=>exact hr i o' ao' (by simpa using ho) (by simpa using ha)
  ·cases h
theorem Sm(hi:Inv cx G a w A σ)(hx:Dt cx fi){g:Option (Nat×Bool)}(hg:JO fi ops o.guard=some g){b:Bool}(hw:FC A g=some b):Region.wanted o (yielded ops a.tmps)=b:=by
 unfold Region.wanted;cases hgu:o.guard with
 |none=>
  rw[hgu] at hg;simp only[JO] at hg;cases hg;simp only[FC] at hw;cases hw;rfl
 |some jb=>
  obtain⟨j,want⟩:=jb;rw[hgu] at hg;simp only[JO] at hg
  split at hg
  ·rename_i t ht
   split at hg
   ·rename_i hp;cases hg;have hpl:=Eo hx.kd hx.nt hp;have hlt:t<a.tmps.size:=by rw[hi.size];exact hpl.1
    have hat:a.tmps[t]?=some (at' a t):=by simp[at',Array.getD,hlt]
    simp only[FC] at hw
    split at hw
    ·rename_i c hc;cases hw;have hv:=((BL hpl.2 rfl).1 (hi.slot t _ hc)).1.He;simp only[yielded,ht,Dn,hat,hv];cases c<;>cases want<;>rfl
    ·rename_i hc;cases hw;obtain⟨cs,hv,_⟩:=((BL hpl.2 rfl).1 (hi.slot t _ hc)).1.NK;simp only[yielded,ht,Dn,hat,hv];rfl
    ·cases hw
   ·cases hg
  ·cases hg
theorem ZC{I:Imm}{bl:Bl}:Bq I bl w undef Ii:=by
 refine .tuple (cs:=#[]) rfl fun i p h=>by simp at h
theorem Rj{ro:Option Nat}{n:Nat}{K:Act→World→Prop}{Q:Exit→Act→World→Prop}(hS:EX P call)(hx:Dt cx fi){i:Nat}(ho:ops[i]?=some o)(hok:kw P pur fi ops o ao)(hsim:Sim cx a w A σ)
  (hex:FN pur call ao A σ=some (A',σ')) (hk:∀a' w',Sim cx a' w' A' σ'→Kept o.dst a a'→K a' w'):wpOpIn (FW ro) n P ops Q i K a w:=by
 obtain⟨G,hi⟩:=hsim;obtain⟨rg,a0,hc,hg,he,hpl⟩:=hok;unfold wpOpIn;rw[ho];dsimp only;unfold FN at hex
 split at hex
 ·rename_i hw;rw[Sm hi hx hg hw,if_pos rfl];refine Z4 hS hi hx hc (pur:=pur) (A':=A') (σ':=σ') ?_ hk
  rw[he] at hex;exact hex
 ·rename_i hw;rw[Sm hi hx hg hw,if_neg (by simp)]
  refine⟨fun _ _=>trivial,hk _ _ ⟨G,?_⟩ (KZ _ _ _)⟩
  have hgs:ao.guard.isSome=true:=by
   cases hgg:ao.guard with
   |none=>rw[hgg] at hw;simp[FC] at hw
   |some _=>rfl
  obtain⟨h1,h2,h3⟩:=hpl hgs
  split at hex
  ·cases hex
   have hdst:ao.dst=o.dst:=by
    have:=OV hc;rw[he];exact this
   have hex0:ao.ex=[]:=by rw[he];exact h1
   have hcl0:ao.clr=[]:=by rw[he];exact h2
   have hpd:Bt fi o.dst=true:=by rw[←OV hc];exact h3
   have hA:CS A ao.wr [some Ii]=Gx A o.dst Ii:=by
    simp only[AOp.wr,hex0,hcl0,hdst,BG];cases o.dst<;>rfl
   rw[hA];exact hi.Jw (Ext.refl _ _ _) hi.base rfl o.dst (DK hx.kd hx.nt hpd) rfl ZC (fun _ _=>trivial)
  ·cases hex
 ·cases hex
theorem Rk(h:FN pur call ao A σ=some (A',σ')):A'.length=A.length:=by
 unfold FN at h
 split at h
 ·unfold BV at h
  split at h
  ·split at h
   ·split at h
    ·cases h;exact DW ..
    ·split at h
     ·cases h;rfl
     ·cases h
   ·cases h
  ·cases h
 ·split at h
  ·cases h;exact DW ..
  ·cases h
 ·cases h
theorem K9:∀(az:List AOp) {A A':Frm} {σ σ':Sto},Gf pur call az A σ=some (A',σ')→A'.length=A.length
 |[],A,A',σ,σ',h=>by cases h;rfl
 |ao::az,A,A',σ,σ',h=>by
  simp only[Gf] at h
  split at h
  ·rename_i A1 σ1 h1;rw[K9 az h,Rk h1]
  ·cases h
theorem SF{ro:Option Nat}{n:Nat}{Q:Exit→Act→World→Prop}(hS:EX P call)(hx:Dt cx fi){az:List AOp}(hl:az.length=ops.size)
  (hok:∀(i:Nat) (o:Oper) (ao:AOp),ops[i]?=some o→az[i]?=some ao→kw P pur fi ops o ao) {A':Frm} {σ':Sto} {S:Nat→Prop} (hsp:∀t,S t→∀(i:Nat) (o:Oper),ops[i]?=some o→o.dst≠some t) {a0:Act} (hq:∀a' w',Sim cx a' w' A' σ'→(∀t,S t→at' a' t=at' a0 t)→Q .normal a' w') :
  ∀(d k:Nat),k+d=ops.size→∀(A:Frm) (σ:Sto),Gf pur call (az.drop k) A σ=some (A',σ')→∀a w,Sim cx a w A σ→(∀t,S t→at' a t=at' a0 t)→wpOpsIn (FW ro) n P ops Q (List.range' k d) a w:=by
 intro d
 induction d with
 |zero=>
  intro k hk A σ hex a w hs hf;rw[Ct (by omega)] at hex
  cases hex;exact hq a w hs hf
 |succ d ih=>
  intro k hk A σ hex a w hs hf;have hlt:k<az.length:=by omega
  rw[Bu hlt] at hex;simp only[Gf] at hex
  split at hex
  ·rename_i A1 σ1 h1;rw[Dq,wpOpsIn_cons];have ho:ops[k]?=some ops[k]:=Aw (by omega)
   exact Rj hS hx ho (hok k _ _ ho (Ad hlt)) hs h1 (fun a' w' hs' hk'=>ih (k+1) (by omega) A1 σ1 hex a' w' hs' fun t ht=>(hk' t (hsp t ht k _ ho)).trans (hf t ht))
  ·cases hex
end
end Go.Abs

namespace Go.Abs
mutual
theorem Uc:∀{a b:PV},peq a b=true→a=b
 |.bool x0,b,h=>by
  cases b<;>first | (simp[peq] at h;done) | skip
  simp[peq] at h;simp[h]
 |.int x0 x1,b,h=>by
  cases b<;>first | (simp[peq] at h;done) | skip
  simp[peq] at h;simp[h]
 |.str x0,b,h=>by
  cases b<;>first | (simp[peq] at h;done) | skip
  simp[peq] at h;simp[h]
 |.nilp,b,h=>by
  cases b<;>first | (simp[peq] at h;done) | skip
  rfl
 |.vptr x0,b,h=>by
  cases b<;>first | (simp[peq] at h;done) | skip
  simp only[peq] at h;rw[Uc h]
 |.ref x0 x1,b,h=>by
  cases b<;>first | (simp[peq] at h;done) | skip
  simp[peq] at h;simp[h]
 |.nils,b,h=>by
  cases b<;>first | (simp[peq] at h;done) | skip
  rfl
 |.slice x0 x1 x2,b,h=>by
  cases b<;>first | (simp[peq] at h;done) | skip
  simp only[peq,Ak] at h;obtain⟨h1,h2,h3⟩:=h;have h1:=eq_of_beq h1;have h2:=AV h2;rw[h1,h2,IB h3]
 |.nili,b,h=>by
  cases b<;>first | (simp[peq] at h;done) | skip
  rfl
 |.self,b,h=>by
  cases b<;>first | (simp[peq] at h;done) | skip
  rfl
 |.dead,b,h=>by
  cases b<;>first | (simp[peq] at h;done) | skip
  rfl
 |.nilm,b,h=>by
  cases b<;>first | (simp[peq] at h;done) | skip
  rfl
 |.mapb,b,h=>by
  cases b<;>first | (simp[peq] at h;done) | skip
  rfl
 |.nilf,b,h=>by
  cases b<;>first | (simp[peq] at h;done) | skip
  rfl
 |.func x0 x1 x2,b,h=>by
  cases b<;>first | (simp[peq] at h;done) | skip
  simp only[peq,Ak] at h;obtain⟨h1,h2,h3⟩:=h;have h1:=AV h1;rw[h1,IB h2,IB h3]
 |.agg x0,b,h=>by
  cases b<;>first | (simp[peq] at h;done) | skip
  simp only[peq] at h;rw[IB h]
 |.tuple x0,b,h=>by
  cases b<;>first | (simp[peq] at h;done) | skip
  simp only[peq] at h;rw[IB h]
 |.arr x0 x1 x2 x3 x4,b,h=>by
  cases b<;>first | (simp[peq] at h;done) | skip
  simp[peq] at h;simp[h]
 |.aptr x0 x1 x2 x3 x4,b,h=>by
  cases b<;>first | (simp[peq] at h;done) | skip
  simp[peq] at h;simp[h]
 |.arrv x0 x1 x2,b,h=>by
  cases b<;>first | (simp[peq] at h;done) | skip
  simp only[peq,Ak] at h;obtain⟨h1,h2,h3⟩:=h;have h1:=AV h1;have h2:=AV h2;rw[h1,h2,IB h3]
 |.empt,b,h=>by
  cases b<;>first | (simp[peq] at h;done) | skip
  rfl
 |.aggr x0,b,h=>by
  cases b<;>first | (simp[peq] at h;done) | skip
  simp only[peq] at h;rw[IB h]
 |.mref x0,b,h=>by
  cases b<;>first | (simp[peq] at h;done) | skip
  simp[peq] at h;simp[h]
 |.mapo x0 x1 x2 x3,b,h=>by
  cases b<;>first | (simp[peq] at h;done) | skip
  simp only[peq,Ak,decide_eq_true_eq] at h;obtain⟨h1,h2,h3,h4⟩:=h;rw[h1,Uc h2,h3,IB h4]
 |.itr x0 x1 x2,b,h=>by
  cases b<;>first | (simp[peq] at h;done) | skip
  simp[peq] at h;simp[h]
 |.lref _ _,b,h=>by cases b<;>simp[peq] at h
 |.hole _,b,h=>by cases b<;>simp[peq] at h
 |.bld _ _ _,b,h=>by cases b<;>simp[peq] at h
 |.mapv _ _,b,h=>by cases b<;>simp[peq] at h
 |.fresh _ _ _,b,h=>by cases b<;>simp[peq] at h
theorem IB:∀{a b:List PV},Qs a b=true→a=b
 |[],[],_=>rfl
 |[],_::_,h=>by simp[Qs] at h
 |_::_,[],h=>by simp[Qs] at h
 |v::vs,v'::vs',h=>by
  simp only[Qs,Ak] at h;rw[Uc h.1,IB h.2]
end
theorem Zz:∀{l l':List (Option PV)},UY l l'=true→l=l'
 |[],[],_=>rfl
 |[],_::_,h=>by simp[UY] at h
 |some v::r,[],h=>by simp[UY] at h
 |none::r,l',h=>by simp[UY] at h
 |some v::r,none::r',h=>by simp[UY] at h
 |some v::r,some v'::r',h=>by
  simp only[UY,Ak] at h;rw[Uc h.1,Zz h.2]
theorem jY:∀{l l':Option (List (Option PV))},OW l l'=true→l=l'
 |some l,some l',h=>by
  have h:UY l l'=true:=h;rw[Zz h]
 |none,_,h=>by simp[OW] at h
 |some _,none,h=>by simp[OW] at h
end Go.Abs

namespace Go.Abs
open Go.RowKit
def Km(cs:List PV):List PV ⊕ (KD×PV×(Kx→PV)):=match mapOf (some cs) with
 |some (d,z,ks,vs)=>.inr (d,z,fun x=>(Gi x ks vs).getD z)
 |none=>.inl (cs.map PV.D7)
def Xc(σ τ:Sto):Prop:=σ.map Km=τ.map Km
theorem Ho(d:KD)(z:PV)(ks:List Kx)(vs:List PV):Km [.mapo d z ks vs]=.inr (d,z,fun x=>(Gi x ks vs).getD z):=rfl
theorem Ia(cs:List PV):(mapOf (some cs)=none)∨∃d z ks vs,cs=[.mapo d z ks vs]:=by
 unfold mapOf;split
 ·rename_i h;cases h;exact .inr ⟨_,_,_,_,rfl⟩
 ·exact .inl rfl
theorem F3{cs:List PV}(h:mapOf (some cs)=none):Km cs=.inl (cs.map PV.D7):=by
 unfold Km;rw[h]
theorem VH{ds cs:List PV}(h:Km ds=Km cs):ds.map PV.D7=cs.map PV.D7∨∃d z ks vs ks' vs',ds=[.mapo d z ks vs]∧cs=[.mapo d z ks' vs']∧∀x,(Gi x ks vs).getD z=(Gi x ks' vs').getD z:=by
 rcases Ia ds with h1 | ⟨d,z,ks,vs,rfl⟩
 ·rcases Ia cs with h2 | ⟨d',z',ks',vs',rfl⟩
  ·rw[F3 h1,F3 h2] at h;exact .inl (by simpa using h)
  ·rw[F3 h1,Ho] at h;cases h
 ·rcases Ia cs with h2 | ⟨d',z',ks',vs',rfl⟩
  ·rw[F3 h2,Ho] at h;cases h
  ·rw[Ho,Ho] at h;have h:=Sum.inr.inj h;simp only[Prod.mk.injEq] at h;obtain⟨rfl,rfl,h3⟩:=h;exact .inr ⟨_,_,_,_,_,_,rfl,rfl,fun x=>congrFun h3 x⟩
section
variable{P:Program}{pur:FuncId→Bool}{call:Caller}{fi:FI}{cx:Cx}{G:Gh}{a:Act}{w:World}{A A' B:Frm}{σ σ' τ:Sto}{rg:RG}{o:Oper}{ao:AOp}{ops:Array Oper}
theorem Fe:∀(ts:List Nat) (vs:List (Option PV)) (A:Frm) (t:Nat),t∉ts→(CS A ts vs).get t=A.get t
 |[],vs,A,t,_=>by cases vs<;>rfl
 |s::ts,[],A,t,_=>rfl
 |s::ts,v::vs,A,t,h=>by
  rw[CS,Fe ts vs _ t (fun h'=>h (BB _ h')),CY,if_neg (fun h'=>h (by rw[h'.1];exact BA ..))]
theorem Jv:∀(ts:List Nat) (vs:List (Option PV)) (A B:Frm) (t:Nat),A.length=B.length→ts.length≤vs.length→t∈ts→(CS A ts vs).get t=(CS B ts vs).get t
 |[],vs,A,B,t,_,_,h=>by cases h
 |s::ts,[],A,B,t,_,h,_=>by simp at h
 |s::ts,v::vs,A,B,t,hl,hv,h=>by
  rw[CS,CS];by_cases ht:t∈ts
  ·exact Jv ts vs _ _ t (by simp[hl]) (by simpa using hv) ht
  ·rw[Fe ts vs _ t ht,Fe ts vs _ t ht,CY,CY]
   have hts:t=s:=by
    rcases Ay.1 h with h | h
    ·exact h
    ·exact absurd h ht
   subst hts;by_cases hlt:t<A.length
   ·rw[if_pos ⟨rfl,hlt⟩,if_pos ⟨rfl,by omega⟩]
   ·rw[if_neg (fun h=>hlt h.2),if_neg (fun h=>hlt (by omega))]
    unfold Frm.get;rw[AA (by omega),AA (by omega)]
theorem I7:∀(az:List Co),(∀t∈NC az,B.get t=A.get t)→BJ B az=BJ A az
 |[],_=>rfl
 |.slot t::az,h=>by
  simp only[BJ];rw[h t (BA ..),I7 az (fun t' ht'=>h t' (BB _ ht'))]
 |.val v::az,h=>by
  simp only[BJ];rw[I7 az (fun t' ht'=>h t' ht')]
theorem R5(g:Option (Nat×Bool))(h:∀t b,g=some (t,b)→B.get t=A.get t):FC B g=FC A g:=by
 cases g with
 |none=>rfl
 |some x=>
  obtain⟨t,b⟩:=x;simp only[FC];rw[h t b rfl]
theorem OM(x:PV):x.D7.isSelf=x.isSelf:=by cases x<;>rfl
theorem QU(x:PV):x.D7.isAgg=x.isAgg:=by cases x<;>rfl
theorem Lc{x:PV}(h:x.isAgg=false):x.Ag=x.D7:=by cases x<;>first | rfl | (simp[PV.isAgg] at h)
theorem aM(x:PV):x.D7.flat=x.flat:=by cases x<;>rfl
theorem WZ(l:List PV):(l.map PV.D7).all PV.flat=l.all PV.flat:=by
 rw[List.all_map];congr 1;funext x;exact aM x
theorem RN(cs:List PV)(g s:Nat):Ej cs g s=Ej (cs.map PV.D7) g s:=by
 match cs with
 |[]=>rfl
 |[x]=>cases x<;>rfl
 |x::y::l=>cases x<;>rfl
theorem bn{cs ds:List PV}(h:ds.map PV.D7=cs.map PV.D7)(g s:Nat):Ej ds g s=Ej cs g s:=by rw[RN,h,←RN]
theorem bu{xs ys:List PV}(h:xs.map PV.D7=ys.map PV.D7):(Ih xs).map PV.Ag=(Ih ys).map PV.Ag:=by
 unfold Ih;rw[←WZ xs,h,WZ,←Kc xs,h,Kc];split
 ·simp only[AB,PV.Ag,Option.some.injEq,PV.agg.injEq];exact h
 ·split
  ·simp only[AB,PV.Ag,Option.some.injEq,PV.aggr.injEq];exact h
  ·rfl
theorem df{cs ds:List PV}(h:ds.map PV.D7=cs.map PV.D7)(off n:Nat)(ag:Bool):(Mj ds off n ag).map PV.Ag=(Mj cs off n ag).map PV.Ag:=by
 have hl:ds.length=cs.length:=by simpa using congrArg List.length h
 have hsl:((ds.drop off).take n).map PV.D7=((cs.drop off).take n).map PV.D7:=by
  rw[List.map_take,List.map_drop,List.map_take,List.map_drop,h]
 cases ag with
 |true=>
  simp only[Mj,hl];split
  ·exact bu hsl
  ·rfl
 |false=>
  simp only[Mj];have hg:=congrArg (fun l=>l[off]?) h
  simp only[Af] at hg;cases hd:ds[off]? with
  |none=>
   rw[hd] at hg;cases hc:cs[off]? with
   |none=>rfl
   |some y=>rw[hc] at hg;simp at hg
  |some x=>
   rw[hd] at hg;cases hc:cs[off]? with
   |none=>rw[hc] at hg;simp at hg
   |some y=>
    rw[hc] at hg;simp only[AB,Option.some.injEq] at hg;have hag:x.isAgg=y.isAgg:=by rw[←QU x,hg,QU]
    have hse:x.isSelf=y.isSelf:=by rw[←OM x,hg,OM]
    dsimp only;rw[hag,hse];cases hy:y.isAgg with
    |true=>rfl
    |false=>
     cases hz:y.isSelf with
     |true=>rfl
     |false=>
      simp only[Bool.or_self,Bool.false_eq_true,if_false,AB];rw[Lc (by rw[hag];exact hy),Lc hy,hg]
theorem Xg{ds cs:List PV}(h:Km ds=Km cs)(off n:Nat)(ag:Bool):(Mj ds off n ag).map PV.Ag=(Mj cs off n ag).map PV.Ag:=by
 rcases VH h with h | ⟨d,z,ks,vs,ks',vs',rfl,rfl,_⟩
 ·exact df h off n ag
 ·cases ag with
  |true=>
   simp only[Mj,List.length_singleton];by_cases ho:off+n≤1
   ·rcases off with _ | off
    ·rcases n with _ | n
     ·rfl
     ·obtain rfl:n=0:=by omega
      rfl
    ·obtain rfl:n=0:=by omega
     rfl
   ·rw[if_neg ho,if_neg ho]
  |false=>
   rcases off with _ | off
   ·rfl
   ·rfl
theorem WW{ds cs:List PV}(h:Km ds=Km cs)(g s:Nat):Ej ds g s=Ej cs g s:=by
 rcases VH h with h | ⟨d,z,ks,vs,ks',vs',rfl,rfl,_⟩
 ·exact bn h g s
 ·rfl
theorem iZ{σ τ:Sto}(h:Xc τ σ)(id:Nat)(z k:PV)(d:KD):Cs (.lkM z false d) [.mref id,k] τ=Cs (.lkM z false d) [.mref id,k] σ:=by
 have hg:=congrArg (fun l=>l[id]?) h
 simp only[Af] at hg
 have one:∀(ρ:Sto),Cs (.lkM z false d) [.mref id,k] ρ=match(ρ[id]?).map Km,LX d k with
   |some (.inr (d',z',f)),some x=>if d'=d∧Ow z z'=true then lkR false (f x) true else none
   |_,_=>none:=by
  intro ρ;simp only[Cs];cases hρ:ρ[id]? with
  |none=>simp[mapOf]
  |some cs=>
   rcases Ia cs with h1 | ⟨d',z',ks,vs,rfl⟩
   ·rw[h1,AB,F3 h1]
   ·rw[AB,Ho]
    show(match some (d',z',ks,vs),LX d k with
     |some (d',z',ks,vs),some x=>if d'=d∧Ow z z'=true then(match Gi x ks vs with | some v=>lkR false v true | none=>lkR false z' false) else none
     |_,_=>none)=_
    cases hk:LX d k with
    |none=>rfl
    |some x=>
     dsimp only;split
     ·cases hl:Gi x ks vs with
      |some v=>rfl
      |none=>rfl
     ·rfl
 rw[one,one,hg]
theorem Xl{k:RK}{vs:List PV}(hw:isW (.r k)=true→τ=σ)(h:Xc τ σ):Cs k vs τ=Cs k vs σ:=by
 cases k with
 |ld n ag=>
  match vs with
  |[]=>rfl
  |x::y::l=>cases x<;>rfl
  |[x]=>
   cases x with
   |ref id off=>
    simp only[Cs];have hg:=congrArg (fun l=>l[id]?) h
    simp only[Af] at hg;cases hd:τ[id]? with
    |none=>
     rw[hd] at hg;cases hc:σ[id]? with
     |none=>rfl
     |some y=>rw[hc] at hg;simp at hg
    |some ds=>
     rw[hd] at hg;cases hc:σ[id]? with
     |none=>rw[hc] at hg;simp at hg
     |some cs=>
      rw[hc] at hg;simp only[AB,Option.some.injEq] at hg;have:=Xg hg off n ag;dsimp only;have e:∀s:Option PV,(s.map fun v=>[some v.Ag])=(s.map PV.Ag).map fun v=>[some v]:=fun s=>by cases s<;>rfl
      rw[e,e,this]
   |aptr id gen size i off=>
    simp only[Cs];have hg:=congrArg (fun l=>l[id]?) h
    simp only[Af] at hg;cases hd:τ[id]? with
    |none=>
     rw[hd] at hg;cases hc:σ[id]? with
     |none=>rfl
     |some y=>rw[hc] at hg;simp at hg
    |some ds=>
     rw[hd] at hg;cases hc:σ[id]? with
     |none=>rw[hc] at hg;simp at hg
     |some cs=>
      rw[hc] at hg;simp only[AB,Option.some.injEq] at hg;dsimp only;rw[WW hg]
   |_=>rfl
 |lkM z ok d=>
  cases ok with
  |true=>rw[hw rfl]
  |false=>
   match vs with
   |[]=>rfl
   |[x]=>cases x<;>rfl
   |x::y::u::l=>cases x<;>rfl
   |[x,y]=>
    cases x with
    |mref id=>exact iZ h id z y d
    |_=>rfl
 |lnM=>rw[hw rfl]
 |enI=>rw[hw rfl]
theorem Sv{k:AK}{vs:List PV}{rs:List (Option PV)}(hW:isW k=true→τ=σ)(hE:∀k',k=.r k'→Cs k' vs τ=Cs k' vs σ)(h:sem pur call k vs σ=some (rs,σ')):
  ∃τ',sem pur call k vs τ=some (rs,τ')∧(isW k=true→τ'=σ')∧(isW k=false→τ'=τ):=by
 cases k with
 |p k=>
  simp only[sem] at h ⊢;obtain⟨rs',h1,e⟩:=Ac.1 h;cases e;exact⟨τ,by rw[h1];rfl,fun h=>by simp[isW] at h,fun _=>rfl⟩
 |r k=>
  simp only[sem] at h ⊢;obtain⟨rs',h1,e⟩:=Ac.1 h;cases e;exact⟨τ,by rw[hE k rfl,h1];rfl,fun h=>hW h,fun _=>rfl⟩
 |w k=>
  have:=hW rfl;subst this;exact⟨σ',h,fun _=>rfl,fun h=>by simp[isW] at h⟩
 |c f=>
  simp only[sem] at h ⊢
  split at h
  ·rename_i hf;rw[if_pos hf];obtain⟨⟨r,σ1⟩,h1,h2⟩:=AP.1 h;dsimp only at h2
   split at h2
   ·rename_i hr;cases h2;refine⟨τ,?_,fun h=>by simp[isW] at h,fun _=>rfl⟩
    rw[h1];simp[hr]
   ·cases h2
  ·cases h
theorem X9(hl:B.length=A.length)(hrd:∀t,t∈ao.rd→B.get t=A.get t)(hW:isW ao.k=true→τ=σ)(hE:isP ao.k=false→isW ao.k=false→Jn ao A τ=Jn ao A σ)(h:FN pur call ao A σ=some (A',σ')):
  ∃B' τ',FN pur call ao B τ=some (B',τ')∧B'.length=B.length∧(∀t,t∈ao.wr→B'.get t=A'.get t)∧(∀t,t∉ao.wr→B'.get t=B.get t)∧(isW ao.k=true→τ'=σ')∧(isW ao.k=false→τ'=τ):=by
 have hw:FC B ao.guard=FC A ao.guard:=R5 _ fun t b hg=>hrd t (by simp[AOp.rd,hg])
 have he:BJ B ao.args=BJ A ao.args:=I7 _ fun t ht=>hrd t (by simp only[AOp.rd];exact List.mem_append_right _ ht)
 have fin:∀{B':Frm} {τ':Sto},FN pur call ao B τ=some (B',τ')→B'.length=B.length:=fun h=>Rk h
 unfold FN at h
 split at h
 ·rename_i hwt;unfold BV at h
  split at h
  ·rename_i vs hvs
   split at h
   ·rename_i rs σ1 hs
    have hσ:σ1=σ':=by
     split at h
     ·cases h;rfl
     ·split at h<;>cases h;rfl
    subst hσ
    have hEr:∀k',ao.k=.r k'→Cs k' vs τ=Cs k' vs σ:=by
     intro k' hk';cases hWk:isW ao.k with
     |true=>rw[hW hWk]
     |false=>
      have:=hE (by rw[hk'];rfl) hWk
      unfold Jn at this;rw[hwt] at this;dsimp only at this;rw[hk',hvs] at this;exact this
    obtain⟨τ',h1,h2,h3⟩:=Sv hW hEr hs;by_cases hlen:rs.length=ao.dst.toList.length+ao.ex.length
    ·rw[if_pos hlen] at h;cases h
     have hB:FN pur call ao B τ=some (CS B ao.wr (rs++ao.clr.map fun _=>none),τ'):=by
      unfold FN;rw[hw,hwt];dsimp only;unfold BV;rw[he,hvs];dsimp only;rw[h1];dsimp only;rw[if_pos hlen]
     refine⟨_,τ',hB,fin hB,fun t ht=>Jv _ _ _ _ t hl ?_ ht,fun t ht=>Fe _ _ _ t ht,h2,h3⟩
     simp only[AOp.wr,Bi,Av];omega
    ·rw[if_neg hlen] at h
     split at h
     ·rename_i hc;cases h
      have hB:FN pur call ao B τ=some (B,τ'):=by
       unfold FN;rw[hw,hwt];dsimp only;unfold BV;rw[he,hvs];dsimp only;rw[h1];dsimp only;rw[if_neg hlen,if_pos hc]
      refine⟨_,τ',hB,rfl,fun t ht=>?_,fun t ht=>rfl,h2,h3⟩
      have:ao.wr=[]:=by
       simp only[AOp.wr,hc.2.1,hc.2.2,BG];have:=hc.1;cases hd:ao.dst with
       |none=>rfl
       |some d=>rw[hd] at this;simp at this
      rw[this] at ht;cases ht
     ·cases h
   ·cases h
  ·cases h
 ·rename_i hwt
  split at h
  ·rename_i hc;cases h
   have hB:FN pur call ao B τ=some (CS B ao.wr [some Ii],τ):=by
    unfold FN;rw[hw,hwt];dsimp only;rw[if_pos hc]
   refine⟨_,τ,hB,fin hB,fun t ht=>Jv _ _ _ _ t hl ?_ ht,fun t ht=>Fe _ _ _ t ht,hW,fun _=>rfl⟩
   simp only[AOp.wr,hc.1,hc.2,BG];cases ao.dst<;>simp
  ·cases h
 ·cases h
theorem Ya(h:FN pur call ao A σ=some (A',σ')):∀t,t∉ao.wr→A'.get t=A.get t:=by
 unfold FN at h
 split at h
 ·unfold BV at h
  split at h
  ·split at h
   ·split at h
    ·cases h;intro t ht;exact Fe _ _ _ t ht
    ·split at h
     ·cases h;intro t _;rfl
     ·cases h
   ·cases h
  ·cases h
 ·split at h
  ·cases h;intro t ht;exact Fe _ _ _ t ht
  ·cases h
 ·cases h
theorem Ri{T:Sto→Sto→Prop}(hT:∀s,T s s)(h:FN pur call ao A σ=some (A',σ'))(hk:∀vs rs,sem pur call ao.k vs σ=some (rs,σ')→T σ' σ):T σ' σ:=by
 unfold FN at h
 split at h
 ·unfold BV at h
  split at h
  ·split at h
   ·rename_i rs σ1 hs
    split at h
    ·cases h;exact hk _ _ hs
    ·split at h
     ·cases h;exact hk _ _ hs
     ·cases h
   ·cases h
  ·cases h
 ·split at h
  ·cases h;exact hT _
  ·cases h
 ·cases h
theorem Vo{k:AK}{vs:List PV}{rs:List (Option PV)}(hk:isW k=false)(h:sem pur call k vs σ=some (rs,σ')):σ'=σ:=by
 obtain⟨τ',h1,_,h3⟩:=Sv (τ:=σ) (fun _=>rfl) (fun _ _=>rfl) h
 rw[h] at h1;cases h1;exact h3 hk
theorem Y3{cs:List PV}{i:Nat}{p:PV}(h:cs[i]?=some p)(hp:p.Ib=true):mapOf (some cs)=none:=by
 rcases Ia cs with h1 | ⟨d,z,ks,vs,rfl⟩
 ·exact h1
 ·cases i with
  |zero=>cases h;cases hp
  |succ i=>simp at h
theorem mr{σ:Sto}{id off:Nat}{cs:List PV}{v:PV}(hσ:σ[id]?=some cs)(hv:cs[off]?=some v)(hag:v.isAgg=false)(hsl:v.Ib=true):Xc (σ.set id (EK cs off [v.Ag])) σ:=by
 unfold Xc;rw[List.map_set];apply BI;intro k;rw[BP];split
 ·rename_i e;subst e;have hlt:=(Ab.1 hσ).1;simp only[Av,hlt,if_true,Af,hσ,AB,Option.some.injEq];have hofs:=(Ab.1 hv);obtain⟨hlo,hve⟩:=hofs
  have hp:(EK cs off [v.Ag])[off]?=some v.Ag:=by
   rw[Mc (by simp;omega),if_pos ⟨Bd _,by simp⟩,Nat.sub_self];rfl
  rw[F3 (Y3 hv hsl),F3 (Y3 hp (by cases v<;>first | rfl | cases hsl))]
  congr 1;unfold EK;simp only[Ez,AL,AR,BD,De];have e1:v.Ag.D7=v.D7:=by rw[Lc hag];cases v<;>rfl
  rw[e1,←hve];have key:cs.take off++cs[off]::cs.drop (off+1)=cs:=by rw[←Bu hlo,List.take_append_drop]
  have:=congrArg (List.map PV.D7) key;rw[Ez,AL] at this;simpa using this
 ·rfl
theorem Ti(y x:Kx):∀ks:List Kx,FM y (ks++[x])=match FM y ks with | some j=>some j | none=>if x=y then some ks.length else none
 |[]=>by
  simp only[BK,FM,De,Option.map_none]
 |k::ks=>by
  simp only[CB,FM];split
  ·rfl
  ·rw[Ti y x ks];cases FM y ks with
   |some j=>rfl
   |none=>
    by_cases h:x=y
    ·simp[h]
    ·simp[h]
theorem jw{ks:List Kx}{x:Kx}{j:Nat}(h:FM x ks=some j):j<ks.length:=(Ab.1 (JM h)).1
theorem iY{ks:List Kx}{vs:List PV}{x:Kx}{z:PV}(hl:vs.length=ks.length)(y:Kx):(Gi y (ks++[x]) (vs++[z])).getD z=(Gi y ks vs).getD z:=by
 unfold Gi;rw[Ti];cases h:FM y ks with
 |some j=>
  have:=jw h;simp only[Dn];rw[Ae (by omega)]
 |none=>
  by_cases hxy:x=y
  ·simp only[hxy,if_true,Dn,Option.bind_none];rw[←hl,Al (Bd _),Nat.sub_self];rfl
  ·simp[hxy]
theorem mD{id:Nat}{d:KD}{z:PV}{ks:List Kx}{vs:List PV}{x:Kx}(hm:mapOf σ[id]?=some (d,z,ks,vs))(hl:vs.length=ks.length):Xc (σ.set id [.mapo d z (ks++[x]) (vs++[z])]) σ:=by
 have hσ:σ[id]?=some [.mapo d z ks vs]:=by
  unfold mapOf at hm
  split at hm
  ·cases hm;assumption
  ·cases hm
 unfold Xc;rw[List.map_set];apply BI;intro k;rw[BP];split
 ·rename_i e;subst e;have hlt:=(Ab.1 hσ).1;simp only[Av,hlt,if_true,Af,hσ,AB,Option.some.injEq];rw[Ho,Ho];congr 3
  funext y
  exact iY hl y
 ·rfl
theorem dR{k:AK}{vs:List PV}{rs:List (Option PV)}(hk:isH k=false)(h:sem pur call k vs σ=some (rs,σ')):Xc σ' σ:=by
 cases k with
 |w k=>
  cases k with
  |ldo=>
   simp only[sem] at h
   match vs,h with
   |[c],h=>
    obtain⟨id,off,cs,v,rfl,h1,h2,h3,e⟩:=Zf h;cases e;exact mr h1 h2 (by cases v<;>first | rfl | simp[PV.Ib] at h3) h3
   |[],h=>simp[Cu] at h
   |x::y::l,h=>simp[Cu] at h
  |enM z d=>
   simp only[sem] at h
   match vs,h with
   |[.mref id,k],h=>
    simp only[Cu] at h
    split at h
    ·rename_i d' z' ks ws x hm hx
     split at h
     case isFalse=>cases h
     split at h
     ·split at h
      ·split at h
       ·cases h;rfl
       ·cases h
      ·cases h
     ·split at h
      case isFalse=>cases h
      rename_i hcc;cases h;exact mD hm hcc.2
    ·cases h
  |_=>simp[isH] at hk
 |r k=>
  simp only[sem] at h;obtain⟨rs',h1,e⟩:=Ac.1 h;cases e;rfl
 |_=>
  have:=Vo (by rfl) h
  rw[this];rfl
theorem Tg(acc:List Nat)(i:Nat):∀(l:List Edge) (s:Nat),(l.foldl (fun s e=>if Region.binds .any e then s ||| 2 ^ e.on ||| acc.getD e.on 0 else s) s).testBit i=true→
  s.testBit i=true∨∃e∈l,Region.binds .any e=true∧(e.on=i∨(acc.getD e.on 0).testBit i=true)
 |[],s,h=>.inl h
 |e::l,s,h=>by
  simp only[Ci] at h;rcases Tg acc i l _ h with h | ⟨e',he',h⟩
  ·split at h
   ·rename_i hb;simp only[Nat.testBit_or,Df] at h;rcases h with(h | h) | h
    ·exact .inl h
    ·rw[Nat.testBit_two_pow] at h;exact .inr ⟨e,BA ..,hb,.inl (by simpa using h)⟩
    ·exact .inr ⟨e,BA ..,hb,.inr h⟩
   ·exact .inl h
  ·exact .inr ⟨e',BB _ he',h⟩
theorem OX:∀(l:List Oper) (pre:List Oper) (acc:List Nat),ops.toList=pre++l→acc.length=pre.length→(∀i j,j<pre.length→(acc.getD j 0).testBit i=true→Ahead ops i j)→
  ∀i j,j<ops.size→((Ou acc l).getD j 0).testBit i=true→Ahead ops i j
 |[],pre,acc,he,hl,h=>by
  intro i j hj hb;refine h i j ?_ hb
  have:=congrArg List.length he;simp at this;omega
 |o::l,pre,acc,he,hl,h=>by
  simp only[Ou];refine OX l (pre++[o]) _ (by rw[he];simp) (by simp[hl]) fun i j hj hb=>?_
  by_cases hlt:j<pre.length
  ·refine h i j hlt ?_
   rw[Aj,Ae (by omega),←Aj] at hb
   exact hb
  ·have hj':j=pre.length:=by simp at hj;omega
   subst hj';rw[Aj,Al (by omega),hl] at hb
   simp only[Nat.sub_self,List.getElem?_cons_zero,Di,TA] at hb
   have ho:ops[pre.length]?=some o:=by
    rw[←Au,he];simp
   intro L hcl hL;have hL':=hL o ho;rw[←Ew] at hb;rcases Tg acc i _ _ hb with hb | ⟨e,hemem,hbind,hb⟩
   ·simp at hb
   ·have hemem':e∈o.after:=by simpa using hemem
    rcases hb with rfl | hb
    ·exact hL' e hemem' hbind
    ·have hlt:e.on<pre.length:=by
      rcases Cc e.on pre.length with h' | h'
      ·exact h'
      ·rw[Aj,AA (by omega)] at hb
       simp at hb
     exact h i e.on hlt hb L hcl (fun o' ho' e' he' hb'=>hcl e.on o' ho' (hL' e hemem' hbind) e' he' hb')
theorem Qt{bits:List Nat}{az:List AOp}:∀(n:Nat),Pi bits az n=true→∀i j,i<j→j<n→(bits.getD j 0).testBit i=true∨Ot (az.getD i default) (az.getD j default)=true∨(Il (az.getD i default) (az.getD j default)=true∧(i,j)∈J7 bits az n)∨(Il (az.getD j default) (az.getD i default)=true∧(j,i)∈J7 bits az n)
 |0,_=>fun i j _ h=>by omega
 |n+1,h=>by
  simp only[Pi,Ak] at h;intro i j hij hj
  have hmono:∀p,p∈J7 bits az n→p∈J7 bits az (n+1):=by
   intro p hp;unfold J7 at hp ⊢;obtain⟨k,hk,hp⟩:=CV.1 hp;exact CV.2 ⟨k,Be.2 (by have:=Be.1 hk;omega),hp⟩
  rcases Cc j n with h' | h'
  ·rcases Qt n h.1 i j hij h' with h | h | ⟨h,hm⟩ | ⟨h,hm⟩
   ·exact .inl h
   ·exact .inr (.inl h)
   ·exact .inr (.inr (.inl ⟨h,hmono _ hm⟩))
   ·exact .inr (.inr (.inr ⟨h,hmono _ hm⟩))
  ·have:j=n:=by omega
   subst this;have:=Ao.1 h.2 i (Be.2 hij);by_cases hb:(bits.getD j 0).testBit i=true
   ·exact .inl hb
   by_cases ha:Ot (az.getD i default) (az.getD j default)=true
   ·exact .inr (.inl ha)
   have hmem:∀p,p∈(if Il (az.getD i default) (az.getD j default) then[(i,j)] else if Il (az.getD j default) (az.getD i default) then[(j,i)] else[])→p∈J7 bits az (j+1):=by
    intro p hp;unfold J7;refine CV.2 ⟨j,Be.2 (by omega),?_⟩
    unfold iE;refine CV.2 ⟨i,Be.2 hij,?_⟩
    rw[if_neg (by simp only[Df];rintro(h | h)<;>contradiction)]
    exact hp
   by_cases h1:Il (az.getD i default) (az.getD j default)=true
   ·exact .inr (.inr (.inl ⟨h1,hmem _ (by rw[if_pos h1];exact List.mem_singleton_self _)⟩))
   ·have h2:Il (az.getD j default) (az.getD i default)=true:=by
     simp only[Df] at this;rcases this with((h | h) | h) | h
     ·exact absurd h hb
     ·exact absurd h ha
     ·exact absurd h h1
     ·exact h
    exact .inr (.inr (.inr ⟨h2,hmem _ (by rw[if_neg h1,if_pos h2];exact List.mem_singleton_self _)⟩))
theorem ND:∀(n:Nat),Ps ops.toList n=true→∀i o,i<n→ops[i]?=some o→∀e∈o.after,Region.binds .any e=true→e.on<i
 |0,_=>fun i o h=>by omega
 |n+1,h=>by
  simp only[Ps,Ak] at h;intro i o hi ho e he hb;rcases Cc i n with h' | h'
  ·exact ND n h.1 i o h' ho e he hb
  ·have:i=n:=by omega
   subst this;have h2:=h.2;rw[Au,ho] at h2;dsimp only at h2;have:=Array.all_eq_true_iff_forall_mem.1 h2 e he;simp only[hb,D6,Ei,decide_eq_true_eq] at this;exact this
theorem Fy{x y:List Nat}(h:Hw x y=true):∀t,t∈x→t∉y:=by
 intro t ht hy;have:=Ao.1 h t ht;simp at this;exact this hy
def OO(az:List AOp)(lo:List (Nat×Nat))(i j:Nat):Bool:=isH (az.getD i default).k&&!lo.contains (i,j)
theorem O6{az:List AOp}{lo:List (Nat×Nat)}{i j:Nat}(h:Ot (az.getD i default) (az.getD j default)=true):
  Hz (fun i=>(az.getD i default).rd) (fun i=>(az.getD i default).wr) (fun i=>isW (az.getD i default).k) (OO az lo) (fun i=>isP (az.getD i default).k) i j:=by
 simp only[Ot,Ak] at h;obtain⟨⟨⟨⟨h1,h2⟩,h3⟩,h4⟩,h5⟩:=h;refine⟨Fy h1,Fy h2,Fy h3,fun hw=>?_,fun hw=>?_⟩
 ·simp only[hw,D6,Ei,Df,Ak,EE] at h4;rcases h4 with h4 | ⟨h4,h6⟩
  ·exact .inl h4
  ·exact .inr ⟨by unfold OO;rw[h4];rfl,h6⟩
 ·simp only[hw,D6,Ei,Df,Ak,EE] at h5;rcases h5 with h5 | ⟨h5,h6⟩
  ·exact .inl h5
  ·exact .inr ⟨by unfold OO;rw[h5];rfl,h6⟩
theorem Kn{az:List AOp}{lo:List (Nat×Nat)}{i j:Nat}(h:Il (az.getD i default) (az.getD j default)=true)(hm:(i,j)∈lo):
  Hz (fun i=>(az.getD i default).rd) (fun i=>(az.getD i default).wr) (fun i=>isW (az.getD i default).k) (OO az lo) (fun i=>isP (az.getD i default).k) i j:=by
 simp only[Il,Ak,EE] at h;obtain⟨⟨⟨⟨⟨h1,h2⟩,h3⟩,h4⟩,h5⟩,h6⟩:=h;refine⟨Fy h1,Fy h2,Fy h3,fun _=>.inr ⟨?_,h6⟩,fun hw=>?_⟩
 ·simp[OO,hm]
 ·rw[h6] at hw;cases hw
theorem PG{rd wr:Nat→List Nat}{W:Nat→Bool}{H:Nat→Nat→Bool}{Pu:Nat→Bool}{i j:Nat}(h:Hz rd wr W H Pu i j):Hz rd wr W H Pu j i:=
 ⟨h.b,h.a,fun t h1 h2=>h.c t h2 h1,h.e,h.d⟩
theorem nK{k:AK}(h:isW k=true):isP k=false:=by cases k<;>first | rfl | simp[isW] at h
theorem nL{k:AK}(h:isH k=true):isW k=true:=by cases k<;>first | rfl | simp[isH] at h
theorem Rm:∀(az:List AOp) (A:Frm) (σ:Sto) (tr:List (Frm×Sto)),Kb pur call az A σ=some tr→
  tr.length=az.length+1∧tr[0]?=some (A,σ)∧∀i,i<az.length→∃x y,tr[i]?=some x∧tr[i+1]?=some y∧FN pur call (az.getD i default) x.1 x.2=some y
 |[],A,σ,tr,h=>by cases h;exact⟨rfl,rfl,fun i h=>by simp at h⟩
 |ao::az,A,σ,tr,h=>by
  simp only[Kb] at h
  split at h
  ·rename_i A1 σ1 h1;obtain⟨tr',h2,rfl⟩:=Ac.1 h;obtain⟨e1,e2,e3⟩:=Rm az A1 σ1 tr' h2;refine⟨by simp[e1],rfl,fun i hi=>?_⟩
   cases i with
   |zero=>exact⟨_,_,rfl,e2,h1⟩
   |succ i=>exact e3 i (by simpa using hi)
  ·cases h
theorem MH:∀(az:List AOp) (A:Frm) (σ:Sto),Kb pur call az A σ=none∧Gf pur call az A σ=none∨∃tr x,Kb pur call az A σ=some tr∧tr.getLast?=some x∧Gf pur call az A σ=some x
 |[],A,σ=>.inr ⟨_,_,rfl,rfl,rfl⟩
 |ao::az,A,σ=>by
  simp only[Kb,Gf];split
  ·rename_i A1 σ1 h1;rcases MH az A1 σ1 with⟨e1,e2⟩ | ⟨tr,x,e1,e2,e3⟩
   ·exact .inl ⟨by rw[e1];rfl,e2⟩
   ·refine .inr ⟨_,x,by rw[e1];rfl,?_,e3⟩
    cases tr with
    |nil=>cases e2
    |cons t tr=>rw[List.getLast?_cons_cons];exact e2
  ·exact .inl ⟨rfl,rfl⟩
theorem WO{az:List AOp}{lo:List (Nat×Nat)}(h:Gq pur call az lo A σ=some (A',σ')):Gf pur call az A σ=some (A',σ'):=by
 unfold Gq at h;rcases MH (pur:=pur) (call:=call) az A σ with⟨e1,_⟩ | ⟨tr,x,e1,e2,e3⟩
 ·rw[e1] at h;cases h
 ·rw[e1] at h;dsimp only at h
  split at h
  ·rw[e2] at h;cases h;exact e3
  ·cases h
theorem fQ{az:List AOp}(h:Gf pur call az A σ=some (A',σ')):Gq pur call az [] A σ=some (A',σ'):=by
 unfold Gq;rcases MH (pur:=pur) (call:=call) az A σ with⟨_,e2⟩ | ⟨tr,x,e1,e2,e3⟩
 ·rw[e2] at h;cases h
 ·rw[e1];rw[h] at e3;cases e3;exact e2
theorem Ua{ro:Option Nat}{n:Nat}{Q:Exit→Act→World→Prop}(hS:EX P call)(hx:Dt cx fi)(hmo:P.follows .mixedOrders=true){id:Nat}{draw:Bool}{az:List AOp}{lo:List (Nat×Nat)}(hc:FE P pur fi id ops draw=some (az,lo))
  (hex:Gq pur call az lo A σ=some (A',σ')) (hs:Sim cx a w A σ) {Sl:Nat→Prop} (hsp:∀t,Sl t→∀(i:Nat) (o:Oper),ops[i]?=some o→o.dst≠some t) (hq:∀a' w',Sim cx a' w' A' σ'→(∀t,Sl t→at' a' t=at' a t)→Q .normal a' w'):(Code.region id ops draw).wpIn (FW ro) n P Q a w:=by
 unfold FE at hc
 split at hc
 ·rename_i as' hl;obtain⟨hlen,hspec⟩:=JB _ _ _ hl;have hlen':as'.length=ops.size:=by simpa using hlen
  have hok:∀(i:Nat) (o:Oper) (ao:AOp),ops[i]?=some o→as'[i]?=some ao→kw P pur fi ops o ao:=fun i o ao ho ha=>hspec i o ao (by rw[Au];exact ho) ha
  cases draw with
  |false=>
   simp only[Bool.false_eq_true,if_false] at hc;cases hc;have hex:=WO hex;refine wpIn_region ?_
   have:=SF (ro:=ro) (n:=n) hS hx hlen' hok hsp hq ops.size 0 (by omega) A σ (by simpa using hex) a w hs (fun _ _=>rfl)
   rw[Dp];exact this
  |true=>
   simp only[if_true] at hc
   split at hc
   ·rename_i hcc;cases hc;simp only[Ak] at hcc;obtain⟨hacy,hpairs⟩:=hcc;generalize hlo:J7 (Ou [] ops.toList) az ops.size=lo at hex;unfold Gq at hex
    split at hex
    case h_2=>cases hex
    rename_i tr htr
    split at hex
    case isFalse=>cases hex
    rename_i hloose;obtain⟨t1,t2,t3⟩:=Rm _ _ _ _ htr
    let F:Nat→Frm:=fun i=>(tr.getD i default).1
    let S:Nat→Sto:=fun i=>(tr.getD i default).2
    have hFS:∀(i:Nat) (x:Frm×Sto),tr[i]?=some x→F i=x.1∧S i=x.2:=fun i x h=>by
     simp only[F,S,Aj,h];exact⟨rfl,rfl⟩
    have e1:F 0=A:=(hFS 0 _ t2).1;have e2:S 0=σ:=(hFS 0 _ t2).2
    have e5:∀i,i<ops.size→FN pur call (az.getD i default) (F i) (S i)=some (F (i+1),S (i+1)):=fun i hi=>by
     obtain⟨x,y,h1,h2,h3⟩:=t3 i (by omega)
     rw[(hFS i x h1).1,(hFS i x h1).2,(hFS _ y h2).1,(hFS _ y h2).2];exact h3
    have hlast:F ops.size=A'∧S ops.size=σ':=by
     have:tr[ops.size]?=some (A',σ'):=by
      rw[List.getLast?_eq_getElem?] at hex
      rw[show tr.length - 1=ops.size from by omega] at hex
      exact hex
     exact hFS _ _ this
    obtain⟨e3,e4⟩:=hlast
    have hans:∀i r,(i,r)∈lo→Jn (az.getD r default) (F r) (S (i+1))=Jn (az.getD r default) (F r) (S i):=by
     intro i r hm;have:=Ao.1 hloose (i,r) hm;dsimp only at this
     split at this
     ·rename_i o Ar σr Ai σi Ai' σi' ho h1 h2 h3;rw[Aj,ho,(hFS _ _ h1).1,(hFS _ _ h2).2,(hFS _ _ h3).2];exact(jY this).symm
     ·cases this
    refine wpIn_region_any hmo ?_
    have hlenF:∀i,i≤ops.size→(F i).length=(F 0).length:=by
     intro i
     induction i with
     |zero=>intro _;rfl
     |succ i ih=>intro hi;rw[Rk (e5 i (by omega)),ih (by omega)]
    refine Pw (A:=F) (S:=S) (x:=fun i B τ=>FN pur call (az.getD i default) B τ) (rd:=fun i=>(az.getD i default).rd) (wr:=fun i=>(az.getD i default).wr)
     (W:=fun i=>isW (az.getD i default).k) (H:=OO az lo) (Pu:=fun i=>isP (az.getD i default).k)
     (E:=fun r τ τ'=>isW (az.getD r default).k=true∨Jn (az.getD r default) (F r) τ=Jn (az.getD r default) (F r) τ') (Sim:=fun a1 w B τ=>Sim cx a1 w B τ∧∀t,Sl t→at' a1 t=at' a t)
     (fun _ _=>.inr rfl) (fun _ _ _ h=>h.imp (fun x=>x) Eq.symm) (fun _ _ _ _ h k=>by
      rcases h with h | h
      ·exact .inl h
      ·rcases k with k | k
       ·exact .inl k
       ·exact .inr (h.trans k))
     (fun i r hi hr hP hH=>by
      cases hWr:isW (az.getD r default).k with
      |true=>exact .inl rfl
      |false=>
       refine .inr ?_
       simp only[OO,Bool.and_eq_false_iff,Bool.not_eq_false'] at hH;rcases hH with hH | hH
       ·have hE:Xc (S (i+1)) (S i):=Ri (fun _=>rfl) (e5 i hi) (fun vs rs h=>dR hH h)
        unfold Jn;split
        ·split
         ·rename_i k vs hk hv;exact Xl (fun h=>by rw[hk] at hWr;rw[hWr] at h;cases h) hE
         ·rfl
        ·rfl
        ·rfl
       ·exact hans i r (by simpa using hH)) hlenF (fun i hi t ht=>Ya (e5 i hi) t ht)
     (fun i hi hW=>Ri (T:=fun s t=>s=t) (fun _=>rfl) (e5 i hi) (fun vs rs h=>Vo hW h))
     (fun i hi h=>nK h) (fun i r hi h=>nL (by simp only[OO,Ak] at h;exact h.1)) ?_ ?_ ?_ ?_ ?_ ops.size (Array.replicate ops.size false) (List.range ops.size) (F 0) (S 0) a _ (by simp) (by simp) (fun j hj _=>Be.2 hj) ?_ ?_
    ·intro i hi B τ hBl hrd hW hE
     exact X9 (by rw[hBl,hlenF i (by omega)]) hrd hW (fun h1 h2=>by
      rcases hE h1 with h | h
      ·rw[h2] at h;cases h
      ·exact h) (e5 i hi)
    ·intro i j hij hj;rcases Qt _ hpairs i j hij hj with h | h | ⟨h,hm⟩ | ⟨h,hm⟩
     ·exact .inl (OX ops.toList [] [] rfl rfl (fun i j h=>by simp at h) i j hj h)
     ·exact .inr (O6 h)
     ·exact .inr (Kn h (by rw[←hlo];exact hm))
     ·exact .inr (PG (Kn h (by rw[←hlo];exact hm)))
    ·intro i o ho e he hb;have hi:i<ops.size:=(Bc.1 ho).1;exact ND ops.size hacy i o hi ho e he hb
    ·intro i hi a1 w B τ B' τ' K hs' hx' hK;have ho:ops[i]?=some ops[i]:=Aw hi
     have ha:az[i]?=some (az.getD i default):=by
      rw[Aj,Ad (by omega)];rfl
     exact Rj hS hx ho (hok i _ _ ho ha) hs'.1 hx' fun a' w' h1 h2=>hK a' w' ⟨h1,fun t ht=>(h2 t (hsp t ht i _ ho)).trans (hs'.2 t ht)⟩
    ·intro a' w' hs';rw[e3,e4] at hs';exact hq a' w' hs'.1 hs'.2
    ·have hL:∀j,(Array.replicate ops.size false).getD j false=false:=by
      intro j;by_cases hj:j<ops.size<;>simp[Array.getD,hj]
     refine⟨?_,rfl,fun t=>⟨0,by omega,rfl,fun j hj _=>?_⟩,0,by omega,rfl,fun j hj _=>?_⟩
     ·intro j o ho hLj
      exfalso
      have:(Array.replicate ops.size false).getD j false=true:=hLj;rw[hL] at this;cases this
     ·show(Array.replicate ops.size false).getD j false=true↔_;rw[hL];simp
     ·show(Array.replicate ops.size false).getD j false=true↔_;rw[hL];simp
    ·rw[e1,e2];obtain⟨G,hi⟩:=hs;exact⟨⟨G,hi.drew⟩,fun _ _=>rfl⟩
   ·cases hc
 ·cases hc
end
end Go.Abs

namespace Go.Abs
open Go.RowKit
def Bp.ex:Bp→Exit
 |.normal=>.normal
 |.exit id=>.exit id
 |.ret=>.ret
section
variable{P:Program}{pur:FuncId→Bool}{call:Caller}{fi:FI}{cx:Cx}{G:Gh}{a:Act}{w:World}{A A' B:Frm}{σ σ' τ:Sto}
theorem H9{keep:List Bool}(h:keep.length=A.length):(mask keep A).length=A.length:=by
 unfold mask;rw[List.length_zipWith];omega
theorem ic{keep:List Bool}{t:Nat}{v:PV}(h:(mask keep A).get t=some v):A.get t=some v:=by
 unfold mask Frm.get at h;rw[Ce] at h;unfold Frm.get;cases hk:keep[t]? with
 |none=>rw[hk] at h;simp at h
 |some b=>
  rw[hk] at h;cases ha:A[t]? with
  |none=>rw[ha] at h;simp at h
  |some x=>
   rw[ha] at h;dsimp only at h ⊢
   split at h
   ·exact h
   ·cases h
theorem Vj{keep:List Bool}(hl:keep.length=A.length)(hs:Sim cx a w A σ):Sim cx a w (mask keep A) σ:=by
 obtain⟨G,hi⟩:=hs;exact⟨G,hi.forget (H9 hl) (fun t v h=>ic h)⟩
theorem V6{keep:List Bool}{body:Frm→Sto→Option (Bp×Frm×Sto)}(hb:∀A σ e A' σ',body A σ=some (e,A',σ')→A'.length=A.length):
  ∀(n:Nat) (A:Frm) (σ:Sto) (e:Bp) (A':Frm) (σ':Sto),keep.length=A.length→iter keep body n A σ=some (e,A',σ')→A'.length=A.length
 |0,A,σ,e,A',σ',_,h=>by cases h
 |n+1,A,σ,e,A',σ',hl,h=>by
  simp only[iter] at h
  split at h
  ·rename_i A1 σ1 h1;have:=hb _ _ _ _ _ h1;rw[V6 hb n _ _ _ _ _ (by rw[H9 (by omega)];omega) h,H9 (by omega),this]
  ·exact hb _ _ _ _ _ h
theorem jO{m:Nat}:∀(ac:Dh) (A:Frm) (σ:Sto) (e:Bp) (A':Frm) (σ':Sto),FX pur call m ac A σ=some (e,A',σ')→A'.length=A.length:=by
 intro ac
 induction ac with
 |skip=>intro A σ e A' σ' h;simp only[FX] at h;cases h;rfl
 |region ops=>
  intro A σ e A' σ' h;simp only[FX] at h;obtain⟨⟨A1,σ1⟩,h1,e1⟩:=Ac.1 h;cases e1;exact K9 _ h1
 |seq x y ihx ihy=>
  intro A σ e A' σ' h;simp only[FX] at h
  split at h
  ·rename_i A1 σ1 h1;rw[ihy _ _ _ _ _ h,ihx _ _ _ _ _ h1]
  ·exact ihx _ _ _ _ _ h
 |cond c t e iht ihe=>
  intro A σ e A' σ' h;simp only[FX] at h
  split at h
  ·exact iht _ _ _ _ _ h
  ·exact ihe _ _ _ _ _ h
  ·cases h
 |block id c ih=>
  intro A σ e A' σ' h;simp only[FX] at h
  split at h
  ·rename_i i A1 σ1 h1
   split at h<;>(cases h;exact ih _ _ _ _ _ h1)
  ·exact ih _ _ _ _ _ h
 |loop keep c ih=>
  intro A σ e A' σ' h;simp only[FX] at h
  split at h
  ·rename_i hl;rw[V6 (fun A σ e A' σ' h=>ih A σ e A' σ' h) _ _ _ _ _ _ (by rw[H9 hl];exact hl) h,H9 hl]
  ·cases h
 |exit id=>intro A σ e A' σ' h;simp only[FX] at h;cases h;rfl
 |ret=>intro A σ e A' σ' h;simp only[FX] at h;cases h;rfl
 |draw ops lo=>
  intro A σ e A' σ' h;simp only[FX] at h;obtain⟨⟨A1,σ1⟩,h1,e1⟩:=Ac.1 h;cases e1;exact K9 _ (WO h1)
theorem least{T:Nat→Prop}(h:∃k,T k):∃k,T k∧∀j,T j→k≤j:=by
 obtain⟨k,hk⟩:=h
 induction k using Nat.strongRecOn with
 |_ k ih=>
  by_cases h:∃j,j<k∧T j
  ·obtain⟨j,h1,h2⟩:=h;exact ih j h1 h2
  ·exact⟨k,hk,fun j hj=>Nat.le_of_not_lt fun hlt=>h ⟨j,hlt,hj⟩⟩
def Es(t:Nat):Code→Bool
 |.region _ ops _=>ops.toList.all fun o=>o.dst != some t
 |.seq x y=>Es t x&&Es t y
 |.cond _ x y=>Es t x&&Es t y
 |.block _ c=>Es t c
 |.loop c=>Es t c
 |_=>true
theorem F7{ro:Option Nat}{n:Nat}(hS:EX P call)(hx:Dt cx fi)(hmo:P.follows .mixedOrders=true):∀(c:Code) (ac:Dh),comp P pur fi c=some ac→
  ∀(m:Nat) (A:Frm) (σ:Sto) (e:Bp) (A':Frm) (σ':Sto),FX pur call m ac A σ=some (e,A',σ')→∀(a:Act) (w:World),Sim cx a w A σ→
  ∀(Q:Exit→Act→World→Prop),(∀a' w',Sim cx a' w' A' σ'→(∀t,Es t c=true→at' a' t=at' a t)→Q e.ex a' w')→c.wpIn (FW ro) n P Q a w:=by
 intro c
 induction c with
 |skip=>
  intro ac hc m A σ e A' σ' h a w hs Q hq;simp only[comp] at hc;cases hc;simp only[FX] at h;cases h;exact wpIn_skip (hq a w hs fun _ _=>rfl)
 |region id ops draw=>
  intro ac hc m A σ e A' σ' h a w hs Q hq;simp only[comp] at hc;obtain⟨⟨az,lo⟩,has,hac⟩:=Ac.1 hc
  have h1:Gq pur call az lo A σ=some (A',σ')∧e=.normal:=by
   dsimp only at hac
   split at hac
   ·rename_i hlo;rw[D9] at hlo;subst hac hlo;simp only[FX] at h;obtain⟨⟨A1,σ1⟩,h1,e1⟩:=Ac.1 h;cases e1;exact⟨fQ h1,rfl⟩
   ·subst hac;simp only[FX] at h;obtain⟨⟨A1,σ1⟩,h1,e1⟩:=Ac.1 h;cases e1;exact⟨h1,rfl⟩
  obtain⟨h1,rfl⟩:=h1
  exact Ua hS hx hmo has h1 hs (Sl:=fun t=>Es t (.region id ops draw)=true) (fun t ht i o ho=>by
   simp only[Es] at ht;have:=Ao.1 ht o (Az (by rw[Au];exact ho))
   simpa using this) hq
 |seq x y ihx ihy=>
  intro ac hc m A σ e A' σ' h a w hs Q hq;simp only[comp] at hc
  split at hc
  ·rename_i ax ay hax hay;cases hc;simp only[FX] at h;refine wpIn_seq ?_
   split at h
   ·rename_i A1 σ1 h1
    exact ihx ax hax m A σ _ A1 σ1 h1 a w hs _ (fun a' w' hs' hf=>ihy ay hay m A1 σ1 e A' σ' h a' w' hs' Q fun a2 w2 hs2 hf2=>hq a2 w2 hs2 fun t ht=>by
     simp only[Es,Ak] at ht;exact(hf2 t ht.2).trans (hf t ht.1))
   ·rename_i hn;refine ihx ax hax m A σ e A' σ' h a w hs _ (fun a' w' hs' hf=>?_)
    have hf':∀t,Es t (.seq x y)=true→at' a' t=at' a t:=fun t ht=>by
     simp only[Es,Ak] at ht;exact hf t ht.1
    cases e with
    |normal=>exact absurd h (hn A' σ')
    |exit id=>exact hq a' w' hs' hf'
    |ret=>exact hq a' w' hs' hf'
  ·cases hc
 |cond c x y ihx ihy=>
  intro ac hc m A σ e A' σ' h a w hs Q hq;simp only[comp] at hc
  split at hc
  ·rename_i ac' ax ay hac hax hay;cases hc;simp only[FX] at h;have hs0:=hs;obtain⟨G,hi⟩:=hs
   split at h
   ·rename_i hev;have:=(Ba hi hx.kd hac hev rfl).He;exact wpIn_cond_true this (ihx ax hax m A σ e A' σ' h a w hs0 Q fun a' w' hs' hf=>hq a' w' hs' fun t ht=>hf t (by simp only[Es,Ak] at ht;exact ht.1))
   ·rename_i hev;have:=(Ba hi hx.kd hac hev rfl).He;exact wpIn_cond_false this (ihy ay hay m A σ e A' σ' h a w hs0 Q fun a' w' hs' hf=>hq a' w' hs' fun t ht=>hf t (by simp only[Es,Ak] at ht;exact ht.2))
   ·cases h
  ·cases hc
 |block id c ih=>
  intro ac hc m A σ e A' σ' h a w hs Q hq;simp only[comp] at hc;obtain⟨ac',hac,rfl⟩:=Ac.1 hc;simp only[FX] at h;refine wpIn_block ?_
  split at h
  ·rename_i i A1 σ1 h1;refine ih ac' hac m A σ _ A1 σ1 h1 a w hs _ (fun a' w' hs' hf=>?_)
   show(if i=id then Q .normal a' w' else Q (.exit i) a' w')
   split at h
   ·rename_i e1;cases h;rw[if_pos e1];exact hq a' w' hs' hf
   ·rename_i e1;cases h;rw[if_neg e1];exact hq a' w' hs' hf
  ·rename_i hn;refine ih ac' hac m A σ e A' σ' h a w hs _ (fun a' w' hs' hf=>?_)
   cases e with
   |normal=>exact hq a' w' hs' hf
   |exit id=>exact absurd h (hn id A' σ')
   |ret=>exact hq a' w' hs' hf
 |loop c ih=>
  intro ac hc m A σ e A' σ' h a w hs Q hq;simp only[comp] at hc;obtain⟨ac',hac,rfl⟩:=Ac.1 hc;simp only[FX] at h
  split at h
  ·rename_i hl
   let keep:=fi.keep
   let body:=FX pur call m ac'
   let T:Act→World→Nat→Prop:=fun a w k=>∃A σ,keep.length=A.length∧Sim cx a w A σ∧iter keep body k A σ=some (e,A',σ')
   classical
   let μ:Act→World→Nat:=fun a w=>if hex:∃k,T a w k then(least hex).choose else 0
   refine wpIn_loop (fun a1 w=>(∃k,T a1 w k)∧∀t,Es t (.loop c)=true→at' a1 t=at' a t) μ ⟨⟨m,mask keep A,σ,by rw[H9 hl];exact hl,Vj hl hs,h⟩,fun _ _=>rfl⟩ ?_
   rintro a1 w ⟨hI,hF⟩
   have hμ:μ a1 w=(least hI).choose:=dif_pos hI;obtain⟨A1,σ1,hl1,hs1,hit⟩:=(least hI).choose_spec.1;rw[←hμ] at hit;cases hk:μ a1 w with
   |zero=>rw[hk] at hit;simp[iter] at hit
   |succ k=>
    rw[hk] at hit;simp only[iter] at hit
    split at hit
    ·rename_i A2 σ2 h2;refine ih ac' hac m A1 σ1 _ A2 σ2 h2 a1 w hs1 _ (fun a' w' hs' hf=>?_)
     have hl2:keep.length=A2.length:=by rw[jO _ _ _ _ _ _ h2];exact hl1
     have hT:T a' w' k:=⟨mask keep A2,σ2,by rw[H9 hl2];exact hl2,Vj hl2 hs',hit⟩
     refine⟨⟨⟨k,hT⟩,fun t ht=>(hf t ht).trans (hF t ht)⟩,?_⟩
     have hI':∃k,T a' w' k:=⟨k,hT⟩;have hμ':μ a' w'=(least hI').choose:=dif_pos hI';have:(least hI').choose≤k:=(least hI').choose_spec.2 k hT;omega
    ·rename_i hn;refine ih ac' hac m A1 σ1 e A' σ' hit a1 w hs1 _ (fun a' w' hs' hf=>?_)
     have hf':∀t,Es t (.loop c)=true→at' a' t=at' a t:=fun t ht=>(hf t ht).trans (hF t ht)
     cases e with
     |normal=>exact absurd hit (hn A' σ')
     |exit id=>exact hq a' w' hs' hf'
     |ret=>exact hq a' w' hs' hf'
  ·cases h
 |exit id=>
  intro ac hc m A σ e A' σ' h a w hs Q hq;simp only[comp] at hc;cases hc;simp only[FX] at h;cases h;exact wpIn_exit (hq a w hs fun _ _=>rfl)
 |ret=>
  intro ac hc m A σ e A' σ' h a w hs Q hq;simp only[comp] at hc;cases hc;simp only[FX] at h;cases h;exact wpIn_ret (hq a w hs fun _ _=>rfl)
 |_=>intro ac hc;simp[comp] at hc
end
end Go.Abs

namespace Go.Abs
open Go.RowKit
section
variable{P:Program}{pur:FuncId→Bool}{call:Caller}{fi:FI}{cx:Cx}{G:Gh}{a:Act}{w:World}{A A' B:Frm}{σ σ' τ:Sto}
theorem Ht{k:SK}(h:k.Ko=true):k.val=true:=by cases k<;>first | rfl | simp[SK.Ko] at h
theorem UA{t:Nat}(h:fi.kind t≠.plain):t<fi.kd.length:=by
 rcases Cc t fi.kd.length with h' | h'
 ·exact h'
 ·exfalso;apply h
  unfold FI.kind;rw[Aj,AA h'];rfl
theorem gM(h:fi.okB=true):∀t m,(∃key,fi.kind t=.ent m key)→∃keys,fi.kind m=.mapb keys:=by
 rintro t m ⟨key,hk⟩
 have:=Ao.1 h t (Be.2 (UA (by rw[hk];simp)))
 rw[hk] at this;simp only[Ak] at this;have h1:=this.1
 split at h1
 ·rename_i keys hm;exact⟨keys,hm⟩
 ·cases h1
theorem gL(h:fi.okB=true):∀t t' m key,fi.kind t=.ent m key→fi.kind t'=.ent m key→t=t':=by
 intro t t' m key hk hk';have:=Ao.1 h t (Be.2 (UA (by rw[hk];simp)))
 rw[hk] at this;simp only[Ak] at this;have h2:=Ao.1 this.2 t' (Be.2 (UA (by rw[hk'];simp)))
 rw[hk'] at h2;simp at h2;exact h2.symm
def VL(fi:FI)(hok:fi.okB=true)(K:Nat→Prop)(G:Gh)(w:World):Cx:=
 { K,I0:=G.I,w0:=w,bl0:=G.bl,kd:=fi.kind,nt:=fi.nt,al:=fi.alias,ents:=gM hok,uniq:=gL hok }
theorem rZ(hok:fi.okB=true)(K:Nat→Prop)(G:Gh)(w:World):Dt (VL fi hok K G w) fi:=⟨fun _=>rfl,rfl,fun _=>rfl⟩
theorem jm{args:List PV}{k t:Nat}{p:PV}(h:Frm.get (args.map some++List.replicate k none) t=some p):args[t]?=some p:=by
 unfold Frm.get at h;by_cases hlt:t<args.length
 ·rw[Ae (by simpa using hlt),Af] at h
  cases ha:args[t]? with
  |none=>rw[ha] at h;cases h
  |some q=>rw[ha] at h;exact h
 ·rw[Al (by simp;omega)] at h
  split at h
  ·rename_i v hv;have:=Az hv;rw[List.mem_replicate] at this;rw[this.2] at h;cases h
  ·cases h
theorem OG{tag:Tag}{v:Value}{p:PV}(h:p.Ag=p):Ed G w tag v p:=by
 rw[←h];exact Cg p
theorem QV(hok:fi.okB=true){K:Nat→Prop}(hpre:Pre K G w σ){vs:Array Value}{args:List PV}(hargs:FB G.I G.bl w vs.toList args)(hown:∀p∈args,p.Ag=p)(hle:args.length≤fi.nt)
  (hval:∀t,t<args.length→(fi.kind t).val=true) (extra:Nat) :
  Inv (VL fi hok K G w) G { tmps:=vs++Array.replicate (fi.nt - vs.size) undef,defers:=[] } w (args.map some++List.replicate (fi.nt+extra - args.length) none) σ:=by
 have hvs:vs.size=args.length:=by simpa using hargs.1
 refine⟨rfl,?_,?_,?_,?_,hpre.obj,hpre.len,hpre.abl⟩
 ·show(vs++Array.replicate (fi.nt - vs.size) undef).size=fi.nt
  simp;omega
 ·show fi.nt≤_
  simp;omega
 ·refine⟨fun _ _=>rfl,Same.refl _ _,fun _ _ h=>h,fun _ _ h=>.inl h,hpre.lt,hpre.own,hpre.Klt,Bd _,Bl.le_refl _,rfl,rfl,rfl⟩
 ·intro t p hp;have ha:=jm hp;have hlt:=(Ab.1 ha).1;obtain⟨v,hv,hr⟩:=hargs.2 t p ha
  have hat:at' { tmps:=vs++Array.replicate (fi.nt - vs.size) undef,defers:=[] } t=v:=by
   have hlt':t<vs.size:=by omega
   rw[Au] at hv;simp only[at',Ah];rw[Dw hlt',hv];rfl
  rw[BL (hval t hlt) hr.free,hat];exact⟨hr,OG (hown p (Az ha))⟩
def Xu(tmps:Array Value):ResultVar→Sem Value
 |.tmp t=>pure (tmps.getD t undef)
 |.cell b t=>do loadVar t (←asAddr (tmps.getD b undef))
theorem Xt(fn:Func)(tmps:Array Value):results fn tmps=(do let vs ← fn.results.mapM (Xu tmps);pure (if h:vs.size=1 then vs[0] else .tuple vs)):=rfl
theorem Jh(hi:Inv cx G a w A σ)(hx:Dt cx fi):∀(rl:List ResultVar) (rs:List (Nat×Option Nat)) (ps:List PV),GY P fi rl=some rs→Fs A rs=some ps→
  ∃vl:List Value,(rl.mapM (Xu a.tmps)).run P w=.ok vl w∧FB G.I G.bl w vl ps
 |[],rs,ps,hr,hp=>by
  cases hr;cases hp;exact⟨[],rfl,rfl,fun i p h=>by simp at h⟩
 |.tmp t::rl,rs,ps,hr,hp=>by
  simp only[GY] at hr
  split at hr
  ·rename_i hpl;obtain⟨rs',hrs,rfl⟩:=Ac.1 hr;simp only[Fs] at hp
   split at hp
   ·rename_i v vs hg hvs
    split at hp
    ·rename_i hf;cases hp;obtain⟨vl,h1,h2⟩:=Jh hi hx rl rs' vs hrs hvs;have hsl:=Eo hx.kd hx.nt hpl;have hrep:=((BL hsl.2 hf).1 (hi.slot t v hg)).1;refine⟨at' a t::vl,?_,by simp[h2.1],fun i p hp=>?_⟩
     ·rw[List.mapM_cons];simp only[Xu,Sem.run_bind,Sem.run_pure,Result.andThen_ok,h1];rfl
     ·cases i with
      |zero=>simp at hp;subst hp;exact⟨_,rfl,hrep.Ag⟩
      |succ i=>simpa using h2.2 i p (by simpa using hp)
    ·simp[KQ] at hp
   ·cases hp
  ·cases hr
 |.cell t ty::rl,rs,ps,hr,hp=>by
  simp only[GY] at hr
  split at hr
  ·rename_i n hcell
   split at hr
   ·rename_i hpl;obtain⟨rs',hrs,rfl⟩:=Ac.1 hr;simp only[Fs] at hp
    split at hp
    ·rename_i v vs hg hvs
     split at hp
     ·rename_i hf;cases hp;obtain⟨vl,h1,h2⟩:=Jh hi hx rl rs' vs hrs hvs;have hk:cx.kd t=.box:=by rw[hx.kd];exact hpl.2
      obtain⟨b,hb,hcells⟩:=(DJ hk).1 (hi.slot t v hg)
      have hsub:sub v 0 n true=some v:=by
       cases v with
       |agg cs=>
        simp only[KP,fits,Bool.true_and,Ak,beq_iff_eq,PV.cells] at hf;obtain⟨rfl,hf2⟩:=hf;have e:(cs.drop 0).take cs.length=cs:=by simp
        simp only[sub];rw[e,if_pos ⟨by omega,hf2⟩]
       |_=>simp[KP,fits] at hf
      obtain⟨u,hu1,hu2⟩:=GK (P:=P) hcell hcells hsub
      have hld:(loadVar ty ⟨b,0,none⟩).run P w=.ok u w:=by
       simpa [Instr.loadAt,Instr.sureAddr] using hu1
      have hat:a.tmps.getD t undef=.pointer (some ⟨b,0,none⟩):=hb;refine⟨u::vl,?_,by simp[h2.1],fun i p hp=>?_⟩
      ·rw[List.mapM_cons]
       have hres:(Xu a.tmps (.cell t ty)).run P w=.ok u w:=by
        simp only[Xu,Sem.run_bind,hat,asAddr,Sem.run_pure,Result.andThen_ok,hld]
       simp only[Sem.run_bind,hres,Sem.run_pure,Result.andThen_ok,h1]
      ·cases i with
       |zero=>simp at hp;subst hp;exact⟨_,rfl,hu2.Ag⟩
       |succ i=>simpa using h2.2 i p (by simpa using hp)
     ·rename_i hnf;obtain⟨r,hres,e⟩:=Ac.1 hp;cases e;obtain⟨vl,h1,h2⟩:=Jh hi hx rl rs' vs hrs hvs;have hk:cx.kd t=.box:=by rw[hx.kd];exact hpl.2
      obtain⟨b,hb,hcells⟩:=(DJ hk).1 (hi.slot t v hg);simp only[KQ] at hres
      split at hres
      case isFalse=>cases hres
      rename_i hcc;cases hres;cases v with
      |agg cs=>
       simp only[fits,Bool.true_and,Ak,beq_iff_eq,PV.cells] at hcc;obtain⟨rfl,hall⟩:=hcc
       have hsub:Sa (.agg cs) 0 cs.length true=some (.aggr cs):=by
        have e:(cs.drop 0).take cs.length=cs:=by simp
        have hno:sub (.agg cs) 0 cs.length true=none:=by
         simp only[sub];rw[e,if_neg]
         rintro⟨_,hf⟩
         refine hnf ?_
         simp only[KP,fits,PV.cells,Bool.true_and,beq_self_eq_true];exact hf
        unfold Sa;rw[hno]
        simp only
        rw[e,if_pos ⟨by omega,by simpa using hall⟩]
       obtain⟨u,hu1,hu2⟩:=MR (P:=P) hcell hcells hsub
       have hld:(loadVar ty ⟨b,0,none⟩).run P w=.ok u w:=by
        simpa [Instr.loadAt,Instr.sureAddr] using hu1
       have hat:a.tmps.getD t undef=.pointer (some ⟨b,0,none⟩):=hb;refine⟨u::vl,?_,by simp[h2.1],fun i p hp=>?_⟩
       ·rw[List.mapM_cons]
        have hres:(Xu a.tmps (.cell t ty)).run P w=.ok u w:=by
         simp only[Xu,Sem.run_bind,hat,asAddr,Sem.run_pure,Result.andThen_ok,hld]
        simp only[Sem.run_bind,hres,Sem.run_pure,Result.andThen_ok,h1]
       ·cases i with
        |zero=>simp at hp;subst hp;exact⟨_,rfl,hu2.Ag⟩
        |succ i=>simpa using h2.2 i p (by simpa using hp)
      |_=>simp[fits] at hcc
    ·cases hp
   ·cases hr
  ·cases hr
theorem Bq.AqP{I:Imm}{bl:Bl}{v:Value}{p:PV}(h:Bq I bl w v p)(hf:p.okt=true):O7 I bl w v p:=by
 cases p with
 |aggr ps=>
  obtain⟨cs,rfl,h1,h2⟩:=h.Le;exact .inr ⟨cs,ps,rfl,rfl,h1,h2⟩
 |_=>exact .inl (h.eZ hf)
theorem J3(hi:Inv cx G a w A σ)(hx:Dt cx fi){fn:Func}{rs:List (Nat×Option Nat)}{ps:List PV}{r:PV}(hr:GY P fi fn.results.toList=some rs)(hp:Fs A rs=some ps)(hpk:Fg ps=some r):
  ∃v,(results fn a.tmps).run P w=.ok v w∧Bq G.I G.bl w v r:=by
 obtain⟨vl,h1,h2⟩:=Jh (P:=P) hi hx _ _ _ hr hp
 have hrun:(results fn a.tmps).run P w=.ok (if h:vl.toArray.size=1 then vl.toArray[0] else .tuple vl.toArray) w:=by
  rw[Xt,Array.mapM_eq_mapM_toList];simp only[Sem.run_bind,Sem.run_map,h1,Result.andThen_ok,Sem.run_pure]
 rw[hrun]
 match ps,hpk,h2 with
 |[p],hpk,h2=>
  cases hpk;obtain⟨v,hv,hrep⟩:=h2.2 0 _ rfl;have hl:=h2.1
  match vl,hl,hv with
  |[u],_,hv=>
   cases hv;exact⟨v,rfl,hrep⟩
 |[],hpk,h2=>
  have hl:=h2.1;have:vl=[]:=Bz.1 (by simpa using hl)
  subst this;simp only[Fg] at hpk;cases hpk;exact⟨_,rfl,.tuple rfl fun i p h=>by simp at h⟩
 |p::q::ps',hpk,h2=>
  simp only[Fg] at hpk
  split at hpk
  ·rename_i hall;cases hpk;have hl:=h2.1;have hne:¬vl.toArray.size=1:=by simp at hl ⊢;omega
   refine⟨.tuple vl.toArray,by rw[dif_neg hne],.tuple (by simpa using hl) fun i x hx=>?_⟩
   obtain⟨v,hv,hrep⟩:=h2.2 i x hx
   have:vl.toArray.getD i undef=v:=by
    rw[Ah,Cy,hv];rfl
   rw[this];exact hrep.AqP (Ao.1 hall x (Az hx))
  ·cases hpk
theorem jr{f:FuncId}{fn:Func}{af:CQ}{n:Nat}{args:List PV}{r:PV}(hmo:P.follows .mixedOrders=true)(hfn:P.funcs[f]?=some fn)(hname:(fn.name == "runtime.NumGoroutine")=false)
  (hcf:F6 P pur fi fn=some af) (hS:EX P call) (hown:∀p∈args,p.Ag=p) (h:YU pur call n af args σ=some (r,σ')):Jc P f args σ r σ':=by
 unfold F6 at hcf
 split at hcf
 ·rename_i c hbody
  split at hcf
  ·rename_i ac rs hac hrs
   split at hcf
   ·cases hcf
   ·rename_i hcc;cases hcf;simp only[not_or,ne_eq,Classical.not_not,Bool.not_eq_false] at hcc;obtain⟨hnt,hok,hvals⟩:=hcc;refine⟨⟨fn,hfn,hname,by rw[hbody];rfl⟩,fun m vs w G K hargs hpre=>?_⟩
    unfold YU at h
    split at h
    ·rename_i hlen;obtain⟨hl1,hl2⟩:=hlen;dsimp only at hl1 hl2 h;have hval:∀t,t<args.length→(fi.kind t).val=true:=fun t ht=>Ht (Ao.1 hvals t (Be.2 (by omega)))
     have hinit:=QV hok hpre hargs hown (by omega) hval fi.ps.length
     have hvs:vs.size=args.length:=by simpa using hargs.1
     have hcx:=rZ hok K G w
     have hpost:∀e A1 σ1,(e=Bp.normal∨e=Bp.ret)→FX pur call n ac (args.map some++List.replicate (fn.ntmps+fi.ps.length - args.length) none) σ=some (e,A1,σ1)→
       ((Fs A1 rs).bind fun vs=>(Fg vs).map fun r=>(r,σ1))=some (r,σ')→
       CallsIn (FW none) m P f vs w fun e w'=>∃v G',e=.returned v∧Bq G'.I G'.bl w' v r∧Aft K G w σ' G' w':=by
      intro e A1 σ1 he hrun hres;obtain⟨ps,hps,hres⟩:=AP.1 hres;obtain⟨r',hr',e1⟩:=Ac.1 hres;cases e1;refine callsIn_of_wp hfn hbody trivial ?_
      rw[←hnt] at hrun ⊢;refine F7 hS hcx hmo c ac hac n _ σ e A1 σ' hrun _ w ⟨G,hinit⟩ _ (fun a' w' hs' _=>?_)
      obtain⟨G',hi'⟩:=hs';obtain⟨v,hv,hrep⟩:=J3 (P:=P) hi' hcx hrs hps hr';have hb:=hi'.base;have haft:Aft K G w σ' G' w':=⟨hb.keep,hb.same,hb.sub,hb.new,hb.lt,hb.own,hb.grow,hb.bl,hb.os,hb.tape,hb.output,hi'.obj,hi'.len,hi'.abl⟩;rcases he with rfl | rfl
      ·exact⟨hi'.defers,v,hv,v,G',rfl,hrep,haft⟩
      ·exact⟨hi'.defers,v,hv,v,G',rfl,hrep,haft⟩
     split at h
     ·rename_i A1 σ1 hrun;exact hpost _ A1 σ1 (.inl rfl) hrun h
     ·rename_i A1 σ1 hrun;exact hpost _ A1 σ1 (.inr rfl) hrun h
     ·cases h
    ·cases h
  ·cases hcf
 ·cases hcf
end
end Go.Abs
