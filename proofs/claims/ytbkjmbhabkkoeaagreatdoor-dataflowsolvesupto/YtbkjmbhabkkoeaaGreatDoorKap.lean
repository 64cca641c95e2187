/- A part of the proof: PQ A47 PR PT PU PX P0 D1 D2 PB PE PF PC. -/
import Derived.Test.YtbkjmbhabkkoeaaGreatDoorKao
import Derived.Test.YtbkjmbhabkkoeaaGreatDoorKan

set_option linter.unusedVariables false
set_option linter.unusedSimpArgs false
namespace Go.Abs.Z
open Go.Proofs Go.RowKit Go.Sort
set_option linter.unusedVariables false
section
variable{cx:Cx}{n:Nat}{ff0:FF}{σ:Sto}{Q:Bp→FF→Sto→Prop}
theorem tA{p:PV}(hx:Dt cx Fj)(hp:p=.nilp∨∃j o,p=.ref j o)(hs:Sub [(0,some p)] ff0)(hq:∀ff1,Sub [(0,some p)] ff1→Q .normal ff1 σ):HT Tryz.prog cx 30 n cA0 ff0 σ Q:=by
 rcases hp with rfl | ⟨j,o,rfl⟩
 all_goals exact HT.pk (R:=R15) (fun _=>Cb) hx Tryz.Cq.mixed kA0 (Jj (by simp)) [0] [] (by kernel_rfl) hs hq
theorem tA'{p:PV}(hx:Dt cx Fj)(hp:p=.nilp∨∃j o,p=.ref j o)(hs:Sub [(0,some p)] ff0)(hq:∀ff1,Sub [(0,some p),(3,some .nils)] ff1→Q .normal ff1 σ):HT Tryz.prog cx 30 n cA1 ff0 σ Q:=by
 rcases hp with rfl | ⟨j,o,rfl⟩
 all_goals exact HT.pk (R:=R15) (fun _=>Cb) hx Tryz.Cq.mixed kA1 (Jj (by simp)) [0,3] [] (by kernel_rfl) hs hq
theorem AqH{p:PV}(hx:Dt cx Fj)(hp:p=.nilp∨∃j o,p=.ref j o)(hs:Sub [(0,some p),(3,some .nils)] ff0)(hq:∀ff1,Sub [(4,some p),(3,some .nils)] ff1→Q .normal ff1 σ):HT Tryz.prog cx 30 n cA2 ff0 σ Q:=by
 rcases hp with rfl | ⟨j,o,rfl⟩
 all_goals exact HT.pk (R:=R15) (fun _=>Cb) hx Tryz.Cq.mixed kA2 (Jj (by simp)) [4,3] [] (by kernel_rfl) hs hq
end
theorem dn{l k:List Int}(h:l.Perm k):LV l=LV k:=oO ((JE l).trans (h.trans (JE k).symm)) (Pd l) (Pd k)
theorem We:∀l:List Int,UE (l.map (PV.int .i64))=some l
 |[]=>rfl
 |x::l=>by simp only[AL,UE,We l]
theorem dx{σ1:Sto}{ia:Nat}{l:List Int}(hl:l.length<9000000000)(hg:l.length - 1≤l.length)(h:σ1[ia]?=some [.arrv (l.length - 1) 1 (l.map (PV.int .i64))]):
  sem pur GI (.w (.call 15)) [.arr ia (l.length - 1) 0 l.length 1] σ1=some ([some (.tuple [])],σ1.set ia [.arrv (l.length - 1) 1 ((LV l).map (PV.int .i64))]):=by
 have h1:OE (fun _ _ _=>none) [.arr ia (l.length - 1) 0 l.length 1] σ1=some (.tuple [],σ1.set ia [.arrv (l.length - 1) 1 ((LV l).map (PV.int .i64))]):=by
  have h2:YG (l.map (PV.int .i64)) 0 l.length=some ((LV l).map (PV.int .i64)):=by
   have e:List.take l.length (List.drop 0 (l.map (PV.int .i64)))=l.map (PV.int .i64):=by
    rw[Dz,CO (by simp)]
   simp only[YG,e,We];rw[if_pos ⟨trivial,hl⟩];simp
  simp only[OE,if_true,h,Ej,and_self,h2]
 have hp:pur 15=false:=by kernel_rfl
 have h3:GI 15 ([PV.arr ia (l.length - 1) 0 l.length 1].map PV.Ag) σ1=some (.tuple [],σ1.set ia [.arrv (l.length - 1) 1 ((LV l).map (PV.int .i64))]):=h1;simp only[sem,Cu,hp,h3,Bool.false_eq_true,if_false];rfl
theorem dw(σ1:Sto):sem pur GI (.w (.call 15)) [.nils] σ1=some ([some (.tuple [])],σ1):=by
 have hp:pur 15=false:=by kernel_rfl
 have h3:GI 15 ([PV.nils].map PV.Ag) σ1=some (.tuple [],σ1):=rfl;simp only[sem,Cu,hp,h3,Bool.false_eq_true,if_false];rfl
theorem UN(k i:Nat)(cs:List PV)(h:(Iy k)[i]?=some cs):cs=[.dead]:=by
 unfold Iy at h;rw[Cm] at h
 split at h
 ·cases h;rfl
 ·cases h
theorem UI:∀zss:List (List Int),Ip zss≤zss.length
 |[]=>Bd _
 |z::r=>by
  have:=UI r;unfold Ip
  split<;>simp<;>omega
noncomputable def TD:CQ:=cA 219 Fj
theorem zV:F6 Tryz.prog pur Fj Tryz.f219=some TD:=by kernel_rfl
theorem vg:TD.ntmps+TD.extra=30:=by kernel_rfl
theorem vo:TD.ntmps=30:=by kernel_rfl
theorem vw:TD.nargs=1:=by kernel_rfl
theorem oH:TD.results=[(2,none)]:=by kernel_rfl
theorem jZ:Gp Tryz.prog 219 fK:=by
 intro call hS args σ r σ' hown h;unfold fK at h
 split at h
 case h_2=>cases h
 rename_i p
 split at h
 case h_2=>cases h
 rename_i zss hch;have hpf:=Rx hch;refine HT.fn (fn:=Tryz.f219) (c:=body) Tryz.func219 (by kernel_rfl) (by kernel_rfl) zV hown ⟨by rw[vw];rfl,by rw[vo];show 1≤30;decide⟩ fun cx n hx=>?_
 rw[vg,nT]
 have hmax:zss.flatten.length≤Cr∧zss.flatten.length<9000000000:=by
  split at h
  ·rename_i he;rw[he];exact⟨Ff _,by decide⟩
  ·split at h
   ·rename_i hh;exact hh
   ·cases h
 refine HT.seq (R:=fun e ff1 σ1=>e=.normal∧σ1=σ∧Sub [(0,some p)] ff1) (tA hx hpf (Sub.refl _) fun ff1 h1=>⟨rfl,rfl,h1⟩) ?_ (fun e _ _ he h=>absurd h.1 he)
 rintro ff1 σa ⟨_,rfl,h1⟩
 refine HT.seq (R:=fun e ff1 σ2=>e=.normal∧σ2=σa∧Sub [(0,some p),(3,some .nils)] ff1) (tA' hx hpf h1 fun ff1 h1=>⟨rfl,rfl,h1⟩) ?_ (fun e _ _ he h=>absurd h.1 he)
 rintro ff2 σb ⟨_,rfl,h2⟩
 refine HT.seq (R:=fun e ff1 σ1=>e=.normal∧∃out l,Sub [(3,some out)] ff1∧Gt σb σ1 out l zss.length (σb.length+Ip zss)∧l.Perm zss.flatten) ?_ ?_ (fun e _ _ he h=>absurd h.1 he)
 ·refine HT.seq (R:=fun e ff1 σ2=>e=.normal∧σ2=σb∧Sub [(4,some p),(3,some .nils)] ff1) (AqH hx hpf h2 fun ff1 h1=>⟨rfl,rfl,h1⟩) ?_ (fun e _ _ he h=>absurd h.1 he)
  rintro ff3 σc ⟨_,rfl,h3⟩
  refine HT.block (R:=fun e ff1 σ1=>e=.exit 0∧∃out l,Sub [(3,some out)] ff1∧Gt σc σ1 out l zss.length (σc.length+Ip zss)∧l.Perm zss.flatten) ?_ (fun _ _ h=>⟨rfl,h.2⟩) (fun _ _ _ he h=>absurd h.1 he)
  exact outer hx hch hmax.1 h3 fun ff1 σ1 out l ha hb hc=>⟨rfl,out,l,ha,hb,hc⟩
 rintro ff3 σ1 ⟨_,out,l,h3,hst,hp⟩
 have hlen:=hst.len;rcases hst.out with⟨hl,ho⟩ | ⟨hl,ho,hia,hge⟩
 ·subst ho;subst hl;have hf:zss.flatten=[]:=Bz.1 (by rw[←hp.length_eq];rfl)
  rw[hf] at h;cases h;refine tF hx (.inl rfl) (dw σ1) h3 fun ff4 h4=>⟨.inr rfl,[.nils],?_,rfl,by simp[Iy,hlen],fun id cs hc=>?_⟩
  ·rw[oH];have:=h4 2 _ rfl;simp only[Gm,this];rfl
  ·by_cases hi:id<σb.length
   ·rw[Ae hi] at hc;rw[hst.old id hi];exact .inl hc
   ·rw[Al (by omega)] at hc
    exact .inr (UN _ _ _ hc)
 ·subst ho;have hne:zss.flatten≠[]:=fun e=>hl (Bz.1 (by rw[hp.length_eq,e];rfl))
  have hll:=hp.length_eq
  split at h
  ·rename_i he;exact absurd he hne
  rename_i hz _;rw[if_pos hmax] at h;cases h;refine tF hx (.inr ⟨_,_,_,rfl⟩) (dx (by omega) (by omega) hia) h3 fun ff4 h4=>⟨.inr rfl,[.arr (σb.length+Ip zss) (zss.flatten.length - 1) 0 zss.flatten.length 1],?_,rfl,?_,fun id cs hc=>?_⟩
  ·rw[oH];have:=h4 2 _ rfl;rw[hll] at this;simp only[Gm,this];rfl
  ·have:=UI zss;simp[Iy,hlen,hl];omega
  ·have hfl:=UI zss;have hial:σb.length+Ip zss<σ1.length:=(Ab.1 hia).1;by_cases hi:id<σb.length
   ·rw[BC,BC,Ae hi] at hc;rw[Ap (by omega),hst.old id hi];exact .inl hc
   ·rw[BC,BC,Al (by omega)] at hc
    by_cases hj:id=σb.length+Ip zss
    ·subst hj;rw[Nat.add_sub_cancel_left,Al (by simp[Iy])] at hc
     have e0:σb.length+Ip zss - σb.length - (Iy (Ip zss)).length=0:=by simp[Iy]
     have e1:Ip zss - (Iy (Ip zss)).length=0:=by simp[Iy]
     rw[e1] at hc;have hc:some [PV.arrv (zss.flatten.length - 1) 1 ((LV zss.flatten).map (PV.int .i64))]=some cs:=hc;rw[Bg hial,←hc,dn hp,hll];exact .inl rfl
    ·refine .inr ?_
     by_cases hk:id - σb.length<Ip zss
     ·rw[Ae (by simpa [Iy] using hk)] at hc
      exact UN _ _ _ hc
     ·rw[Al (by simp[Iy];omega)] at hc
      have e:(Iy (Ip zss)).length=Ip zss:=by simp[Iy]
      rw[e,Al (by simp;omega)] at hc
      exact UN _ _ _ hc
end Go.Abs.Z

namespace Go.Abs
open Go.RowKit
section
variable{P:Program}{pur:FuncId→Bool}{call:Caller}{fi:FI}{cx:Cx}{N n m:Nat}{ff ff':FF}{σ σ':Sto}{Q:Bp→FF→Sto→Prop}{a:Act}{w:World}
theorem bC.dead(h:bC cx N a w ff σ)(hd:Dead σ σ'):bC cx N a w ff σ':=by
 obtain⟨A,hr,G,hi⟩:=h;refine⟨A,hr,G,hi.defers,hi.size,hi.room,hi.base,hi.slot,fun id cs hc=>?_,by rw[←hd.1];exact hi.len,fun i g x hx=>by rw[←hd.1];exact hi.abl i g x hx⟩
 rcases hd.2 id cs hc with h1 | rfl
 ·exact hi.obj id cs h1
 ·have hlt:=(Ab.1 hc).1;obtain⟨b,hb,_⟩:=hi.obj id _ (Ad (by rw[hd.1];exact hlt))
  exact⟨b,hb,.inr (.inr (.inl rfl))⟩
theorem HT.dead{c:Code}(hd:Dead σ σ')(h:HT P cx N n c ff σ' Q):HT P cx N n c ff σ Q:=fun a w hs K hK=>h a w (hs.dead hd) K hK
theorem HT.sub{c:Code}(hs:∀t v,Dr ff' t=some v→Dr ff t=some v)(h:HT P cx N n c ff' σ Q):HT P cx N n c ff σ Q:=by
 rintro a w ⟨A,hr,hi⟩ K hK
 exact h a w ⟨A,⟨hr.len,fun t v hv=>hr.get t v (hs t v hv)⟩,hi⟩ K hK
def Yg:List Code→Code→Code
 |[],r=>r
 |c::cs,r=>.seq c (Yg cs r)
noncomputable def jQ(pur:FuncId→Bool)(call:Caller)(m:Nat)(l:List Dh):FF→Sto→Option (FF×Sto):=
 List.rec (motive:=fun _=>FF→Sto→Option (FF×Sto)) (fun ff σ=>some (ff,σ)) (fun c _ ih ff σ=>match EI pur call m c ff σ with | some (.normal,ff1,σ1)=>ih ff1 σ1 | _=>none) l
theorem HT.chain(hS:EX P call)(hx:Dt cx fi)(hmo:P.follows .mixedOrders=true):∀(cs:List Code) (az:List Dh) (rest:Code) (ff:FF) (σ:Sto),cs.map (comp P pur fi)=az.map some→az.all (El N)=true→jQ pur call m az ff σ=some (ff',σ')→HT P cx N n rest ff' σ' Q→HT P cx N n (Yg cs rest) ff σ Q
 |[],[],rest,ff,σ,_,_,h,hr=>by cases h;exact hr
 |[],_::_,_,_,_,h,_,_,_=>by cases h
 |_::_,[],_,_,_,h,_,_,_=>by cases h
 |c::cs,a::az,rest,ff,σ,h1,h2,h,hr=>by
  simp only[AL,List.cons.injEq,AQ,Ak] at h1 h2;have h:(match EI pur call m a ff σ with | some (.normal,ff1,σ1)=>jQ pur call m az ff1 σ1 | _=>none)=some (ff',σ'):=h
  split at h
  ·rename_i ff1 σ1 ha;refine HT.seq (R:=fun e ff2 σ2=>e=.normal∧ff2=ff1∧σ2=σ1) (HT.code hS hx hmo h1.1 h2.1 ha ⟨rfl,rfl,rfl⟩) ?_ (fun e _ _ he h=>absurd h.1 he)
   rintro _ _ ⟨_,rfl,rfl⟩
   exact HT.chain hS hx hmo cs az rest _ _ h1.2 h2.2 h hr
  ·cases h
end
end Go.Abs

namespace Go.Abs.Z
noncomputable section
open Go.Proofs Go.RowKit Go.Sort
set_option linter.unusedVariables false
def Zr:Code:=Tryz.f123.body.getD .skip
def rP:Nat→Code→List Code
 |0,_=>[]
 |n+1,c=>c.s1::rP n c.s2
def rT:Nat→Code→Code
 |0,c=>c
 |n+1,c=>rT n c.s2
def csR:List Code:=rP 8 Zr
def eX:Code:=rT 8 Zr
def c19:=eX.s1.s1
def cL6:=eX.s1.s2.b1.l1
def cZ:=eX.s2
def c20:=cL6.s1
def cK6:=cL6.s2.s1
def c21:=cL6.s2.s2.b1.s1
def c22:=cL6.s2.s2.b1.s2.s1
def cL8:=cL6.s2.s2.b1.s2.s2.b1.l1
def c23:=cL8.s1
def cK8:=cL8.s2.s1
def c24:=cL8.s2.s2.s1.b1.s1
def c25:=cL8.s2.s2.s1.b1.s2
def c26:=cL8.s2.s2.s2
theorem jJ:Zr=Yg csR (.seq (.seq c19 (.block 6 (.loop cL6))) cZ):=by kernel_rfl
theorem sF:cL6=.seq c20 (.seq cK6 (.block 7 (.seq c21 (.seq c22 (.block 8 (.loop cL8)))))):=by kernel_rfl
theorem jI:cL8=.seq c23 (.seq cK8 (.seq (.block 9 (.seq c24 c25)) c26)):=by kernel_rfl
def acV(c:Code):Dh:=(comp Tryz.prog pur EW c).getD .skip
def asR:List Dh:=csR.map acV
theorem kR:csR.map (comp Tryz.prog pur EW)=asR.map some:=by kernel_rfl
theorem okR:asR.all (El 105)=true:=by kernel_rfl
theorem k19:comp Tryz.prog pur EW c19=some (acV c19):=by kernel_rfl
theorem kZ:comp Tryz.prog pur EW cZ=some (acV cZ):=by kernel_rfl
theorem kK6:comp Tryz.prog pur EW cK6=some (acV cK6):=by kernel_rfl
theorem k21:comp Tryz.prog pur EW c21=some (acV c21):=by kernel_rfl
theorem k22:comp Tryz.prog pur EW c22=some (acV c22):=by kernel_rfl
theorem k23:comp Tryz.prog pur EW c23=some (acV c23):=by kernel_rfl
theorem kK8:comp Tryz.prog pur EW cK8=some (acV cK8):=by kernel_rfl
theorem k24:comp Tryz.prog pur EW c24=some (acV c24):=by kernel_rfl
theorem k25:comp Tryz.prog pur EW c25=some (acV c25):=by kernel_rfl
theorem k26:comp Tryz.prog pur EW c26=some (acV c26):=by kernel_rfl
theorem okV:([c19,cZ,cK6,c21,c22,c23,cK8,c24,c25,c26].all fun c=>El 105 (acV c))=true:=by kernel_rfl
theorem M8{c:Code}(h:c∈[c19,cZ,cK6,c21,c22,c23,cK8,c24,c25,c26]):El 105 (acV c)=true:=Ao.1 okV c h
def VG:Array Oper:=match c20 with | .region _ ops _=>ops | _=>#[]
theorem sJ:c20=.region 20 VG false:=by kernel_rfl
def aT:=(FE Tryz.prog pur EW 20 VG false).getD ([],[])
theorem k20:FE Tryz.prog pur EW 20 VG false=some (aT.1,aT.2):=by kernel_rfl
theorem AjJ:aT.1.all (Qx 105)=true:=by kernel_rfl
def o20:Oper:=(VG[0]?).getD default
theorem qI:VG[0]?=some o20:=by kernel_rfl
theorem qH:o20.op=.next (.tmp 80) false:=by kernel_rfl
theorem ql(ff:FF)(σ:Sto):LW pur GI (aT.1.drop 1) ((81,some (.tuple [.bool false]))::ff) σ=some (.normal,(82,some (.bool false))::(81,some (.tuple [.bool false]))::ff,σ):=by kernel_rfl
theorem qi(k:Kx)(ff:FF)(σ:Sto):LW pur GI (aT.1.drop 1) ((81,some (.tuple [.bool true,k.pv,.nils]))::ff) σ=some (.normal,(82,some (.bool true))::(81,some (.tuple [.bool true,k.pv,.nils]))::ff,σ):=by
 cases k<;>kernel_rfl
theorem qj(k:Kx)(id g off len:Nat)(ff:FF)(σ:Sto):LW pur GI (aT.1.drop 1) ((81,some (.tuple [.bool true,k.pv,.arr id g off len 1]))::ff) σ=some (.normal,(82,some (.bool true))::(81,some (.tuple [.bool true,k.pv,.arr id g off len 1]))::ff,σ):=by
 cases k<;>kernel_rfl
section
variable{cx:Cx}{n:Nat}{ff0:FF}{σ:Sto}{Q:Bp→FF→Sto→Prop}
abbrev fr3(rv:PV)(mi it:Nat):FF:=[(3,some rv),(4,some (.mref mi)),(80,some (.ref it 0))]
theorem uK6{b:Bool}{r mi it:Nat}(hx:Dt cx EW)(hs:Sub ((82,some (.bool b))::fr3 (.ref r 0) mi it) ff0)(hq:∀ff1,Sub (fr3 (.ref r 0) mi it) ff1→Q (if b then .normal else .exit 6) ff1 σ):HT Tryz.prog cx 105 n cK6 ff0 σ Q:=by
 cases b with
 |true=>exact HT.pk (R:=R15) (fun _=>Cb) hx Tryz.Cq.mixed kK6 (M8 (by simp)) [3,4,80] [] (by kernel_rfl) hs hq
 |false=>exact HT.pk (R:=R15) (fun _=>Cb) hx Tryz.Cq.mixed kK6 (M8 (by simp)) [3,4,80] [] (by kernel_rfl) hs hq
theorem u21{r mi it:Nat}{k v:PV}(hx:Dt cx EW)(hk:(∃a b,k=.int a b)∨(∃l,k=.str l)∨∃l,k=.agg l)(hv:v=.nils∨∃i g o l,v=.arr i g o l 1)(h1:Cs .enI [.ref it 0] σ=some [some (.tuple [k,v])])(hs:Sub (fr3 (.ref r 0) mi it) ff0)(hq:∀ff1,Sub ((10,some v)::fr3 (.ref r 0) mi it) ff1→Q .normal ff1 σ):HT Tryz.prog cx 105 n c21 ff0 σ Q:=by
 rcases hv with rfl | ⟨i,g,o,l,rfl⟩
 all_goals
  rcases hk with⟨c,d,rfl⟩ | ⟨c,rfl⟩ | ⟨c,rfl⟩
  all_goals exact HT.pk (R:=R15) (fun _=>Cb) hx Tryz.Cq.mixed k21 (M8 (by simp)) [10,3,4,80] [sq 0 (k:=.r .enI) (vs:=[.ref it 0]) (rs:=[some (.tuple [_,_])]) (σ:=σ) (σ':=σ) (fun n=>show(Cs .enI [.ref it 0] σ).map _=_ from by rw[h1];rfl)] (by kernel_rfl) hs hq
theorem AqG{r mi it:Nat}(hx:Dt cx EW)(hs:Sub ((10,some .nils)::fr3 (.ref r 0) mi it) ff0)(hq:∀ff1,Sub ((87,some (.int .i64 0))::(86,some (.int .i64 0))::(85,some .nils)::(10,some .nils)::fr3 (.ref r 0) mi it) ff1→Q .normal ff1 σ):HT Tryz.prog cx 105 n c22 ff0 σ Q:=
 HT.pk (R:=R15) (fun _=>Cb) hx Tryz.Cq.mixed k22 (M8 (by simp)) [87,86,85,10,3,4,80] [] (by kernel_rfl) hs hq
theorem u22{r mi it i g o:Nat}{l:Nat}(hx:Dt cx EW)(hs:Sub ((10,some (.arr i g o l 1))::fr3 (.ref r 0) mi it) ff0)(hq:∀ff1,Sub ((87,some (.int .i64 0))::(86,some (.int .i64 (l:Int)))::(85,some (.arr i g o l 1))::(10,some (.arr i g o l 1))::fr3 (.ref r 0) mi it) ff1→Q .normal ff1 σ):HT Tryz.prog cx 105 n c22 ff0 σ Q:=
 HT.pk (R:=R15) (fun _=>Cb) hx Tryz.Cq.mixed k22 (M8 (by simp)) [87,86,85,10,3,4,80] [] (by kernel_rfl) hs hq
theorem AqF{r mi it:Nat}(hx:Dt cx EW)(hs:Sub ((87,some (.int .i64 0))::(86,some (.int .i64 0))::(85,some .nils)::(10,some .nils)::fr3 (.ref r 0) mi it) ff0)(hq:∀ff1,Sub ((88,some (.bool false))::fr3 (.ref r 0) mi it) ff1→Q .normal ff1 σ):HT Tryz.prog cx 105 n c23 ff0 σ Q:=
 HT.pk (R:=R15) (fun _=>Cb) hx Tryz.Cq.mixed k23 (M8 (by simp)) [88,3,4,80] [] (by kernel_rfl) hs hq
abbrev fr7(r mi it i g o l:Nat)(j:Int):FF:=(87,some (.int .i64 j))::(86,some (.int .i64 (l:Int)))::(85,some (.arr i g o l 1))::(10,some (.arr i g o l 1))::fr3 (.ref r 0) mi it
theorem u23{r mi it i g o l:Nat}{j:Int}(hx:Dt cx EW)(hs:Sub (fr7 r mi it i g o l j) ff0)(hq:∀ff1,Sub ((88,some (.bool (decide (j<(l:Int)))))::fr7 r mi it i g o l j) ff1→Q .normal ff1 σ):HT Tryz.prog cx 105 n c23 ff0 σ Q:=
 HT.pk (R:=R15) (fun _=>Cb) hx Tryz.Cq.mixed k23 (M8 (by simp)) [88,87,86,85,10,3,4,80] [sq 0 (k:=.p (.bin .lss 0)) (vs:=[.int .i64 j,.int .i64 (l:Int)]) (rs:=[some (.bool (decide (j<(l:Int))))]) (σ:=σ) (σ':=σ) (fun n=>rfl)] (by kernel_rfl) hs hq
theorem tT{b:Bool}{r mi it:Nat}(hx:Dt cx EW)(hb:b=false)(hs:Sub ((88,some (.bool b))::fr3 (.ref r 0) mi it) ff0)(hq:∀ff1,Sub (fr3 (.ref r 0) mi it) ff1→Q (.exit 8) ff1 σ):HT Tryz.prog cx 105 n cK8 ff0 σ Q:=by
 subst hb;exact HT.pk (R:=R15) (fun _=>Cb) hx Tryz.Cq.mixed kK8 (M8 (by simp)) [3,4,80] [] (by kernel_rfl) hs hq
theorem uK8{r mi it i g o l:Nat}{j:Int}{b:Bool}(hb:b=true)(hx:Dt cx EW)(hs:Sub ((88,some (.bool b))::fr7 r mi it i g o l j) ff0)(hq:∀ff1,Sub (fr7 r mi it i g o l j) ff1→Q .normal ff1 σ):HT Tryz.prog cx 105 n cK8 ff0 σ Q:=by
 subst hb;exact HT.pk (R:=R15) (fun _=>Cb) hx Tryz.Cq.mixed kK8 (M8 (by simp)) [87,86,85,10,3,4,80] [] (by kernel_rfl) hs hq
theorem u24{r mi it i g o l:Nat}{j u:Int}(hx:Dt cx EW)(h1:AJ (.idx 1) [.arr i g o l 1,.int .i64 j]=some [some (.aptr i g 1 (o+j.toNat) 0)])(h2:Cs (.ld 1 false) [.aptr i g 1 (o+j.toNat) 0] σ=some [some (.int .i64 u)])(hs:Sub (fr7 r mi it i g o l j) ff0)(hq:∀ff1,Sub ((11,some (.int .i64 j))::(12,some (.int .i64 u))::fr7 r mi it i g o l j) ff1→Q .normal ff1 σ):HT Tryz.prog cx 105 n c24 ff0 σ Q:=
 HT.pk (R:=R15) (fun _=>Cb) hx Tryz.Cq.mixed k24 (M8 (by simp)) [11,12,87,86,85,10,3,4,80] [sq 1 (k:=.p (.idx 1)) (vs:=[.arr i g o l 1,.int .i64 j]) (rs:=[some (.aptr i g 1 (o+j.toNat) 0)]) (σ:=σ) (σ':=σ) (fun n=>show(AJ _ _).map _=_ from by rw[h1];rfl),sq 0 (k:=.r (.ld 1 false)) (vs:=[.aptr i g 1 (o+j.toNat) 0]) (rs:=[some (.int .i64 u)]) (σ:=σ) (σ':=σ) (fun n=>show(Cs _ _ σ).map _=_ from by rw[h2];rfl)] (by kernel_rfl) hs hq
theorem u25{r mi it i g o l:Nat}{j u x:Int}{σ':Sto}(hx:Dt cx EW)(h0:Cs (.lkM (.int .i64 0) false (.i .i64)) [.mref mi,.int .i64 u] σ=some [some (.int .i64 x)])(h1:AJ (.idx 1) [.arr i g o l 1,.int .i64 j]=some [some (.aptr i g 1 (o+j.toNat) 0)])(h2:Cu pur GI (.st 1) [.aptr i g 1 (o+j.toNat) 0,.int .i64 x] σ=some ([],σ'))(hs:Sub ((11,some (.int .i64 j))::(12,some (.int .i64 u))::fr7 r mi it i g o l j) ff0)(hq:∀ff1,Sub (fr7 r mi it i g o l j) ff1→Q .normal ff1 σ'):HT Tryz.prog cx 105 n c25 ff0 σ Q:=
 HT.pk (R:=R15) (fun _=>Cb) hx Tryz.Cq.mixed k25 (M8 (by simp)) [87,86,85,10,3,4,80] [sq 4 (k:=.r (.lkM (.int .i64 0) false (.i .i64))) (vs:=[.mref mi,.int .i64 u]) (rs:=[some (.int .i64 x)]) (σ:=σ) (σ':=σ) (fun n=>show(Cs _ _ σ).map _=_ from by rw[h0];rfl),sq 0 (k:=.p (.idx 1)) (vs:=[.arr i g o l 1,.int .i64 j]) (rs:=[some (.aptr i g 1 (o+j.toNat) 0)]) (σ:=σ) (σ':=σ) (fun n=>show(AJ _ _).map _=_ from by rw[h1];rfl),sq 0 (k:=.w (.st 1)) (vs:=[.aptr i g 1 (o+j.toNat) 0,.int .i64 x]) (rs:=[]) (σ:=σ) (σ':=σ') (fun n=>h2)] (by kernel_rfl) hs hq
theorem u26{r mi it i g o l:Nat}{j:Int}(hx:Dt cx EW)(hj:IntKind.i64.wrap (j+1)=j+1)(hs:Sub (fr7 r mi it i g o l j) ff0)(hq:∀ff1,Sub (fr7 r mi it i g o l (j+1)) ff1→Q .normal ff1 σ):HT Tryz.prog cx 105 n c26 ff0 σ Q:=
 HT.pk (R:=R15) (fun _=>Cb) hx Tryz.Cq.mixed k26 (M8 (by simp)) [87,86,85,10,3,4,80] [sq 0 (k:=.p (.bin .add 0)) (vs:=[.int .i64 j,.int .i64 1]) (rs:=[some (.int .i64 (j+1))]) (σ:=σ) (σ':=σ) (fun n=>show some ([some (PV.int .i64 (IntKind.i64.wrap (j+1)))],σ)=_ from by rw[hj])] (by kernel_rfl) hs hq
end
end
end Go.Abs.Z

namespace Go.Abs.Z
open Go.Proofs Go.RowKit Go.Sort
set_option linter.unusedVariables false
theorem PP{a b:FF}(ls:List Nat)(h:L9 ls b=a):Sub a b:=h▸Hm ls b
abbrev ints(l:List Int):List PV:=l.map (PV.int .i64)
theorem rD{σ:Sto}{mi:Nat}{kx:List Kx}{xs:List Int}(h:mapOf σ[mi]?=some (.i .i64,.int .i64 0,kx,ints xs))(u:Int):∃x,Cs (.lkM (.int .i64 0) false (.i .i64)) [.mref mi,.int .i64 u] σ=some [some (.int .i64 x)]:=by
 have hz:Ow (.int .i64 0) (.int .i64 0)=true:=by kernel_rfl
 simp only[Cs,h,LX,if_true,hz,and_self];cases hl:Gi (.i .i64 u) kx (ints xs) with
 |none=>exact⟨0,rfl⟩
 |some v=>
  obtain⟨j,_,hj⟩:=AP.1 hl;rw[Af] at hj;obtain⟨x,_,rfl⟩:=Ac.1 hj;exact⟨x,rfl⟩
theorem il{σ:Sto}{i mi g:Nat}{l:List PV}{x:KD×PV×List Kx×List PV}(h:mapOf σ[mi]?=some x)(h2:σ[i]?=some [.arrv g 1 l]):mi≠i:=by
 rintro rfl
 rw[h2] at h;cases h
theorem dO{α:Type}{l:List α}{i:Nat}{x:α}(h:l[i]?=some x):l.set i x=l:=by
 apply BI;intro j;rw[BP];split
 ·rename_i e;subst e;rw[if_pos (Ab.1 h).1,h]
 ·rfl
section
variable{cx:Cx}{n:Nat}{ff0:FF}{σ σ1:Sto}{Q:Bp→FF→Sto→Prop}
theorem rM{r mi it i g o l:Nat}{kx:List Kx}{xs zs:List Int}(hx:Dt cx EW)(hm:mapOf σ1[mi]?=some (.i .i64,.int .i64 0,kx,ints xs))(hi:σ1[i]?=some [.arrv g 1 (ints zs)])(hol:o+l≤zs.length)(hl:l<9000000000)
  (hs:Sub (fr7 r mi it i g o l 0) ff0) (hq:∀ff1 zs',Sub (fr3 (.ref r 0) mi it) ff1→zs'.length=zs.length→Q (.exit 8) ff1 (σ1.set i [.arrv g 1 (ints zs')])):HT Tryz.prog cx 105 n (.loop cL8) ff0 σ1 Q:=by
 let J:Nat→FF→Sto→Prop:=fun k ff σ'=>∃(j:Nat) (zs':List Int),k=l - j∧j≤l∧Sub (fr7 r mi it i g o l (j:Int)) ff∧zs'.length=zs.length∧σ'=σ1.set i [.arrv g 1 (ints zs')]
 refine HT.loop J (m:=l) ⟨0,zs,by omega,by omega,hs,rfl,(dO hi).symm⟩ ?_
 rintro k ff σ' ⟨j,zs',rfl,hj,hs,hz,rfl⟩
 have hil:i<σ1.length:=(Ab.1 hi).1;have hi':(σ1.set i [PV.arrv g 1 (ints zs')])[i]?=some [.arrv g 1 (ints zs')]:=Bg hil
 have hm':mapOf (σ1.set i [PV.arrv g 1 (ints zs')])[mi]?=some (.i .i64,.int .i64 0,kx,ints xs):=by
  rw[Ap (Ne.symm (il hm hi))];exact hm
 rw[jI];refine HT.seq (R:=fun e ff1 σ2=>e=.normal∧σ2=σ1.set i [.arrv g 1 (ints zs')]∧Sub ((88,some (.bool (decide ((j:Int) < (l:Int)))))::fr7 r mi it i g o l j) ff1) (u23 hx hs fun ff1 h=>⟨rfl,rfl,h⟩) ?_ (fun e _ _ he h=>absurd h.1 he)
 rintro ff1 _ ⟨_,rfl,h1⟩
 by_cases hjl:j<l
 ·have hd:decide ((j:Int) < (l:Int))=true:=by simpa using hjl
  refine HT.seq (R:=fun e ff1 σ2=>e=.normal∧σ2=σ1.set i [.arrv g 1 (ints zs')]∧Sub (fr7 r mi it i g o l j) ff1) (uK8 hd hx h1 fun ff1 h=>⟨rfl,rfl,h⟩) ?_ (fun e _ _ he h=>absurd h.1 he)
  rintro ff2 _ ⟨_,rfl,h2⟩
  have hlt:o+j<zs'.length:=by omega
  have hidx:AJ (.idx 1) [.arr i g o l 1,.int .i64 j]=some [some (.aptr i g 1 (o+(j:Int).toNat) 0)]:=by
   simp only[AJ,Kr];rw[if_pos ⟨trivial,by omega,by omega⟩];rfl
  have hld:Cs (.ld 1 false) [.aptr i g 1 (o+(j:Int).toNat) 0] (σ1.set i [.arrv g 1 (ints zs')])=some [some (.int .i64 zs'[o+j])]:=by
   simp only[Cs,hi',Ej,and_self,if_true,BN,Af,Ad hlt,AB];rfl
  obtain⟨x,hlk⟩:=rD hm' zs'[o+j]
  have hst:Cu pur GI (.st 1) [.aptr i g 1 (o+(j:Int).toNat) 0,.int .i64 x] (σ1.set i [.arrv g 1 (ints zs')])=some ([],σ1.set i [.arrv g 1 (ints (zs'.set (o+j) x))]):=by
   have e:(ints zs').set (o+j) (.int .i64 x)=ints (zs'.set (o+j) x):=by simp[ints,List.map_set]
   have hc:(PV.int IntKind.i64 x).cells.length=1∧(PV.int IntKind.i64 x).okc∧(PV.int IntKind.i64 x).ones:=⟨rfl,rfl,rfl⟩;simp only[Cu,hi',Ej,and_self,if_true,BN,Af,Ad hlt,AB,if_pos hc];show(Option.map _ (upd (.int .i64 zs'[o+j]) 0 (.int .i64 x)))=_;have hu:upd (.int .i64 zs'[o+j]) 0 (.int .i64 x)=some (.int .i64 x):=by kernel_rfl
   rw[hu];simp only[AB,List.set_set,e]
  refine HT.seq (R:=fun e ff1 σ2=>e=.normal∧σ2=σ1.set i [.arrv g 1 (ints (zs'.set (o+j) x))]∧Sub (fr7 r mi it i g o l j) ff1) ?_ ?_ (fun e _ _ he h=>absurd h.1 he)
  ·refine HT.block (R:=fun e ff1 σ2=>e=.normal∧σ2=σ1.set i [.arrv g 1 (ints (zs'.set (o+j) x))]∧Sub (fr7 r mi it i g o l j) ff1) ?_ (fun _ _ h=>by cases h.1) (fun _ _ _ _ h=>h)
   refine HT.seq (R:=fun e ff1 σ2=>e=.normal∧σ2=σ1.set i [.arrv g 1 (ints zs')]∧Sub ((11,some (.int .i64 j))::(12,some (.int .i64 zs'[o+j]))::fr7 r mi it i g o l j) ff1) (u24 hx hidx hld h2 fun ff1 h=>⟨rfl,rfl,h⟩) ?_ (fun e _ _ he h=>absurd h.1 he)
   rintro ff3 _ ⟨_,rfl,h3⟩
   exact u25 hx hlk hidx hst h3 fun ff1 h=>⟨rfl,rfl,h⟩
  ·rintro ff3 _ ⟨_,rfl,h3⟩
   have hw:IntKind.i64.wrap ((j:Int)+1)=(j:Int)+1:=by
    rw[IntKind.wrap_i64];omega
   exact u26 hx hw h3 fun ff1 h=>.inl ⟨rfl,l - (j+1),by omega,j+1,zs'.set (o+j) x,rfl,by omega,by exact_mod_cast h,by simpa using hz,rfl⟩
 ·have hd:decide ((j:Int) < (l:Int))=false:=by simpa using hjl
  have h1':Sub ((88,some (.bool false))::fr3 (.ref r 0) mi it) ff1:=by
   rw[hd] at h1;exact(PP [88,3,4,80] (by kernel_rfl)).trans h1
  refine HT.seq (R:=fun e ff1 σ2=>e=.exit 8∧σ2=σ1.set i [.arrv g 1 (ints zs')]∧Sub (fr3 (.ref r 0) mi it) ff1) (tT hx rfl h1' fun ff1 h=>⟨rfl,rfl,h⟩) (fun _ _ h=>by cases h.1) ?_
  rintro e ff2 _ _ ⟨rfl,rfl,h2⟩
  exact .inr ⟨by simp,hq ff2 zs' h2 hz⟩
end
end Go.Abs.Z

namespace Go.Abs.Z
open Go.Proofs Go.RowKit Go.Sort
set_option linter.unusedVariables false
noncomputable def kill(ids:List Nat)(σ:Sto):Sto:=List.rec (motive:=fun _=>Sto→Sto) (fun σ=>σ) (fun i _ ih σ=>ih (σ.set i [.dead])) ids σ
theorem SS(i:Nat)(ids:List Nat)(σ:Sto):kill (i::ids) σ=kill ids (σ.set i [.dead]):=rfl
theorem VY:∀(ids:List Nat) (σ:Sto),(kill ids σ).length=σ.length
 |[],_=>rfl
 |i::ids,σ=>by rw[SS,VY];simp
theorem VZ:∀(ids:List Nat) (σ:Sto) (j:Nat),(kill ids σ)[j]?=σ[j]?∧j∉ids∨(∀cs,(kill ids σ)[j]?=some cs→cs=[.dead])∧j∈ids
 |[],σ,j=>.inl ⟨rfl,by simp⟩
 |i::ids,σ,j=>by
  rw[SS];rcases VZ ids (σ.set i [.dead]) j with⟨h,hn⟩ | ⟨h,hn⟩
  ·by_cases hij:i=j
   ·subst hij;refine .inr ⟨fun cs hc=>?_,by simp⟩
    rw[h,BP] at hc;simp only[if_true] at hc
    split at hc
    ·exact(Option.some.inj hc).symm
    ·cases hc
   ·refine .inl ⟨by rw[h,Ap hij],?_⟩
    simp[hn];exact fun e=>hij e.symm
  ·exact .inr ⟨h,by simp[hn]⟩
def U8(σ:Sto)(v:PV):Bool:=match v with
 |.nils=>true
 |.arr id g o l s=>match σ[id]? with
  |some cs=>match Ej cs g 1 with
   |some es=>match UE es with
    |some zs=>decide (s=1)&&(decide (o+l≤zs.length)&&decide (l<9000000000))
    |none=>false
   |none=>false
  |none=>false
 |_=>false
def Py(v:PV):List Nat:=match v with
 |.arr id _ _ _ _=>[id]
 |_=>[]
theorem Px{σ:Sto}{v:PV}(h:U8 σ v=true):v=.nils∨∃i g o l zs,v=.arr i g o l 1∧σ[i]?=some [.arrv g 1 (ints zs)]∧o+l≤zs.length∧l<9000000000:=by
 unfold U8 at h
 split at h
 ·exact .inl rfl
 ·split at h
  ·rename_i cs hc
   split at h
   ·rename_i es he
    split at h
    ·rename_i zs hz;simp only[Ak,decide_eq_true_eq] at h;obtain⟨rfl,h1,h2⟩:=h;refine .inr ⟨_,_,_,_,zs,rfl,?_,h1,h2⟩
     unfold Ej at he
     split at he
     ·split at he
      ·rename_i hh;cases he;rw[hc,hh.1,hh.2,Np hz]
      ·cases he
     ·cases he
    ·cases h
   ·cases h
  ·cases h
 ·cases h
structure Iz(σ0:Sto)(vs:List PV)(it:Nat)(σ1:Sto):Prop where
 len:σ1.length=σ0.length
 old:∀id,id∉vs.flatMap Py→id≠it→σ1[id]?=σ0[id]?
 arr:∀v∈vs,v=.nils∨∃i g o l zs,v=.arr i g o l 1∧σ1[i]?=some [.arrv g 1 (ints zs)]∧o+l≤zs.length∧l<9000000000
theorem Iz.put{σ0 σ1:Sto}{vs:List PV}{it i g:Nat}{zs zs':List Int}(h:Iz σ0 vs it σ1)(hi:i∈vs.flatMap Py)(h1:σ1[i]?=some [.arrv g 1 (ints zs)])(hz:zs'.length=zs.length):Iz σ0 vs it (σ1.set i [.arrv g 1 (ints zs')]):=by
 refine⟨by rw[Bw];exact h.len,fun id h2 h3=>?_,fun v hv=>?_⟩
 ·have hne:i≠id:=by rintro rfl;exact h2 hi
  rw[Ap hne];exact h.old id h2 h3
 ·rcases h.arr v hv with rfl | ⟨i',g',o,l,zs2,rfl,h3,h4,h5⟩
  ·exact .inl rfl
  ·refine .inr ⟨i',g',o,l,?_⟩
   by_cases he:i=i'
   ·subst he;rw[h1] at h3;simp only[Option.some.injEq,List.cons.injEq,PV.arrv.injEq,and_true,true_and] at h3;obtain⟨hg,hzz⟩:=h3;have hl:zs.length=zs2.length:=by simpa [ints] using congrArg List.length hzz
    subst hg;exact⟨zs',rfl,Bg (Ab.1 h1).1,by omega,h5⟩
   ·exact⟨zs2,rfl,by rw[Ap he];exact h3,h4,h5⟩
theorem Iz.itr{σ0 σ1:Sto}{vs:List PV}{it m since:Nat}{seen:List Nat}{cs:List PV}(h:Iz σ0 vs it σ1)(hit:Fv σ1[it]?=some (m,since,seen)):Iz σ0 vs it (σ1.set it cs):=by
 refine⟨by rw[Bw];exact h.len,fun id h2 h3=>?_,fun v hv=>?_⟩
 ·rw[Ap (Ne.symm h3)];exact h.old id h2 h3
 ·rcases h.arr v hv with rfl | ⟨i',g',o,l,zs2,rfl,h3,h4,h5⟩
  ·exact .inl rfl
  ·have he:it≠i':=by
    rintro rfl
    rw[h3] at hit;cases hit
   exact .inr ⟨i',g',o,l,zs2,rfl,by rw[Ap he];exact h3,h4,h5⟩
theorem Iz.dead{σ0 σ1:Sto}{vs:List PV}{it:Nat}(h:Iz σ0 vs it σ1):Dead σ1 (kill (it::vs.flatMap Py) σ0):=by
 refine⟨by rw[VY];exact h.len,fun id cs hc=>?_⟩
 rcases VZ (it::vs.flatMap Py) σ0 id with⟨h1,h2⟩ | ⟨h1,_⟩
 ·simp only[Ay,not_or] at h2;rw[h1] at hc;exact .inl (by rw[h.old id h2.2 h2.1];exact hc)
 ·exact .inr (h1 cs hc)
section
variable{cx:Cx}{n:Nat}{ff0:FF}{σ:Sto}{Q:Bp→FF→Sto→Prop}
theorem qB{r mi it m since:Nat}{d:KD}{z:PV}{ks kx:List Kx}{vs:List PV}{xs:List Int}(hx:Dt cx EW)(hm:mapOf σ[mi]?=some (.i .i64,.int .i64 0,kx,ints xs))(hit:Fv σ[it]?=some (m,since,[]))(hmm:mapOf σ[m]?=some (d,z,ks,vs))(hk:ks.length=since)(hv:vs.length=since)(hvs:vs.all (U8 σ)=true)
  (hs:Sub (fr3 (.ref r 0) mi it) ff0) (hq:∀ff1 σ1,Sub (fr3 (.ref r 0) mi it) ff1→Iz σ vs it σ1→Q (.exit 6) ff1 σ1):HT Tryz.prog cx 105 n (.loop cL6) ff0 σ Q:=by
 have hkeep:∀{σ1:Sto} {j:Nat} {x:KD×PV×List Kx×List PV},Iz σ vs it σ1→mapOf σ[j]?=some x→mapOf σ1[j]?=some x:=fun {σ1 j x} h hj=>by
  rw[h.old j ?_ ?_];exact hj
  ·intro hc;obtain⟨v,hv,hid⟩:=CV.1 hc;rcases Px (Ao.1 hvs v hv) with rfl | ⟨i,g,o,l,zs,rfl,h1,_⟩
   ·cases hid
   ·simp only[Py,List.mem_singleton] at hid;subst hid;rw[h1] at hj;cases hj
  ·rintro rfl
   unfold Fv at hit
   split at hit
   ·rename_i h1;rw[h1] at hj;cases hj
   ·cases hit
 let J:Nat→FF→Sto→Prop:=fun mm ff σ1=>∃seen,mm=(E5 since seen).length∧Sub (fr3 (.ref r 0) mi it) ff∧Fv σ1[it]?=some (m,since,seen)∧Iz σ vs it σ1
 refine HT.loop J (m:=(E5 since []).length) ⟨[],rfl,hs,hit,⟨rfl,fun _ _ _=>rfl,fun v hv=>Px (Ao.1 hvs v hv)⟩⟩ ?_
 rintro mm ff σ1 ⟨seen,rfl,hs,hit,hst⟩
 have hm1:=hkeep hst hm;have hmm1:=hkeep hst hmm;rw[sF]
 refine HT.seq (R:=fun e ff1 σ2=>e=.normal∧((σ2=σ1∧Sub ((82,some (.bool false))::fr3 (.ref r 0) mi it) ff1) ∨
  ∃j kk v,j∈E5 since seen∧ks[j]?=some kk∧vs[j]?=some v∧σ2=σ1.set it [.itr m since (seen++[j])]∧Sub ((82,some (.bool true))::fr3 (.ref r 0) mi it) ff1)) ?_ ?_ (fun e _ _ he h=>absurd h.1 he)
 ·have hsub:∀(v b:PV),Sub ((82,some b)::fr3 (.ref r 0) mi it) ((82,some b)::(81,some v)::ff):=by
   intro v b t y h;have h3:=hs t y;rw[FO] at h ⊢;cases hb:Nat.beq 82 t with
   |true=>simp only[hb] at h ⊢;exact h
   |false=>
    simp only[hb] at h ⊢;have h:Dr (fr3 (.ref r 0) mi it) t=some y:=h;show Dr ((81,some v)::ff) t=some y;rw[FO];cases hc:Nat.beq 81 t with
    |true=>
     have:=AV hc;subst this;cases h
    |false=>exact h3 h
  rw[sJ];refine HT.next Cb hx k20 AjJ qI qH (d:=81) (by kernel_rfl) (by kernel_rfl) (by kernel_rfl) (by kernel_rfl) (by decide) (by decide) (hs 80 _ rfl) hit hmm1 hk (fun v hv=>?_) (fun hl=>⟨_,_,ql ff σ1,rfl,.inl ⟨rfl,hsub _ _⟩⟩) (fun j hj k v hk hv=>?_)
  ·rcases hst.arr v hv with rfl | ⟨i,g,o,l,zs,rfl,_⟩<;>rfl
  ·rcases hst.arr v (Az hv) with rfl | ⟨i,g,o,l,zs,rfl,_⟩
   ·exact⟨_,_,qi k ff _,rfl,.inr ⟨j,k,_,hj,hk,hv,rfl,hsub _ _⟩⟩
   ·exact⟨_,_,qj k i g o l ff _,rfl,.inr ⟨j,k,_,hj,hk,hv,rfl,hsub _ _⟩⟩
 rintro ff1 σ2 ⟨_,⟨rfl,h1⟩ | ⟨j,kk,v,hj,hkk,hvj,rfl,h1⟩⟩
 ·refine HT.seq (R:=fun e ff1 σ3=>e=.exit 6∧σ3=σ2∧Sub (fr3 (.ref r 0) mi it) ff1) (uK6 (b:=false) hx h1 fun ff1 h=>⟨rfl,rfl,h⟩) (fun _ _ h=>by cases h.1) ?_
  rintro e ff2 σ3 _ ⟨rfl,rfl,h2⟩
  exact .inr ⟨by simp,hq _ _ h2 hst⟩
 have hitl:it<σ1.length:=by
  unfold Fv at hit
  split at hit
  ·rename_i hh;exact(Ab.1 hh).1
  ·cases hit
 have hst2:=hst.itr (cs:=[.itr m since (seen++[j])]) hit;have hm2:=hkeep hst2 hm;have hmm2:=hkeep hst2 hmm;have hit2:Fv (σ1.set it [.itr m since (seen++[j])])[it]?=some (m,since,seen++[j]):=by rw[Bg hitl];rfl
 have hvv:=hst2.arr v (Az hvj)
 have hvform:v=.nils∨∃i g o l,v=.arr i g o l 1:=by
  rcases hvv with h | ⟨i,g,o,l,_,h,_⟩
  ·exact .inl h
  ·exact .inr ⟨i,g,o,l,h⟩
 have hen:Cs .enI [.ref it 0] (σ1.set it [.itr m since (seen++[j])])=some [some (.tuple [kk.pv,v])]:=by
  have hfl:(v.flat||v.EG)=true∧v.Ag=v:=by
   rcases hvform with rfl | ⟨i,g,o,l,rfl⟩<;>exact⟨rfl,rfl⟩
  simp only[Cs,hit2,hmm2,List.getLast?_append,List.getLast?_singleton,Option.some_or,hkk,hvj,hk,hfl]
  rfl
 refine HT.seq (R:=fun e ff1 σ3=>e=.normal∧σ3=σ1.set it [.itr m since (seen++[j])]∧Sub (fr3 (.ref r 0) mi it) ff1) (uK6 (b:=true) hx h1 fun ff1 h=>⟨rfl,rfl,h⟩) ?_ (fun e _ _ he h=>absurd h.1 he)
 rintro ff2 _ ⟨_,rfl,h2⟩
 have fin:∀ff3 σ3,Sub (fr3 (.ref r 0) mi it) ff3→Fv σ3[it]?=some (m,since,seen++[j])→Iz σ vs it σ3→∃k,k<(E5 since seen).length∧J k ff3 σ3:=fun ff3 σ3 h3 h4 h5=>⟨_,VU hj,seen++[j],rfl,h3,h4,h5⟩
 refine HT.block (R:=fun e ff1 σ3=>e=.normal∧Sub (fr3 (.ref r 0) mi it) ff1∧Fv σ3[it]?=some (m,since,seen++[j])∧Iz σ vs it σ3) ?_ (fun _ _ h=>by cases h.1) (fun e ff3 σ3 he h=>.inl ⟨h.1,fin _ _ h.2.1 h.2.2.1 h.2.2.2⟩)
 refine HT.seq (R:=fun e ff1 σ3=>e=.normal∧σ3=σ1.set it [.itr m since (seen++[j])]∧Sub ((10,some v)::fr3 (.ref r 0) mi it) ff1) (u21 hx (Zh kk) hvform hen h2 fun ff1 h=>⟨rfl,rfl,h⟩) ?_ (fun e _ _ he h=>absurd h.1 he)
 rintro ff3 _ ⟨_,rfl,h3⟩
 rcases hvv with rfl | ⟨i,g,o,l,zs,rfl,hi,hol,hl⟩
 ·refine HT.seq (R:=fun e ff1 σ3=>e=.normal∧σ3=σ1.set it [.itr m since (seen++[j])]∧Sub ((87,some (.int .i64 0))::(86,some (.int .i64 0))::(85,some .nils)::(10,some .nils)::fr3 (.ref r 0) mi it) ff1) (AqG hx h3 fun ff1 h=>⟨rfl,rfl,h⟩) ?_ (fun e _ _ he h=>absurd h.1 he)
  rintro ff4 _ ⟨_,rfl,h4⟩
  refine HT.block (R:=fun e ff1 σ3=>e=.exit 8∧σ3=σ1.set it [.itr m since (seen++[j])]∧Sub (fr3 (.ref r 0) mi it) ff1) ?_ (fun ff5 σ5 h=>⟨rfl,h.2.2,by rw[h.2.1];exact hit2,by rw[h.2.1];exact hst2⟩) (fun _ _ _ he h=>absurd h.1 he)
  refine HT.loop (fun _ ff σ5=>σ5=σ1.set it [.itr m since (seen++[j])]∧Sub ((87,some (.int .i64 0))::(86,some (.int .i64 0))::(85,some .nils)::(10,some .nils)::fr3 (.ref r 0) mi it) ff) (m:=0) ⟨rfl,h4⟩ ?_
  rintro _ ff5 _ ⟨rfl,h5⟩
  rw[jI];refine HT.seq (R:=fun e ff1 σ3=>e=.normal∧σ3=σ1.set it [.itr m since (seen++[j])]∧Sub ((88,some (.bool false))::fr3 (.ref r 0) mi it) ff1) (AqF hx h5 fun ff1 h=>⟨rfl,rfl,h⟩) ?_ (fun e _ _ he h=>absurd h.1 he)
  rintro ff6 _ ⟨_,rfl,h6⟩
  refine HT.seq (R:=fun e ff1 σ2=>e=.exit 8∧σ2=σ1.set it [.itr m since (seen++[j])]∧Sub (fr3 (.ref r 0) mi it) ff1) (tT hx rfl h6 fun ff1 h=>⟨rfl,rfl,h⟩) (fun _ _ h=>by cases h.1) ?_
  rintro e ff7 _ _ ⟨rfl,rfl,h7⟩
  exact .inr ⟨by simp,rfl,rfl,h7⟩
 ·refine HT.seq (R:=fun e ff1 σ3=>e=.normal∧σ3=σ1.set it [.itr m since (seen++[j])]∧Sub (fr7 r mi it i g o l 0) ff1) (u22 hx h3 fun ff1 h=>⟨rfl,rfl,h⟩) ?_ (fun e _ _ he h=>absurd h.1 he)
  rintro ff4 _ ⟨_,rfl,h4⟩
  have hmem:i∈vs.flatMap Py:=CV.2 ⟨_,Az hvj,List.mem_singleton.2 rfl⟩
  have hne:it≠i:=by
   rintro rfl
   rw[hi] at hit2;cases hit2
  refine HT.block (R:=fun e ff1 σ3=>e=.exit 8∧Sub (fr3 (.ref r 0) mi it) ff1∧Fv σ3[it]?=some (m,since,seen++[j])∧Iz σ vs it σ3) ?_ (fun ff5 σ5 h=>⟨rfl,h.2⟩) (fun _ _ _ he h=>absurd h.1 he)
  refine rM hx hm2 hi hol hl h4 fun ff5 zs' h5 hz=>⟨rfl,h5,?_,hst2.put hmem hi hz⟩
  rw[Ap (Ne.symm hne)];exact hit2
end
end Go.Abs.Z

namespace Go.Abs.Z
noncomputable section
open Go.Proofs Go.RowKit Go.Sort
set_option linter.unusedVariables false
def isZ(v:PV):Bool:=match v with
 |.int .i64 n=>decide (n=0)
 |_=>false
theorem rJ{v:PV}(h:isZ v=true):v=.int .i64 0:=by
 unfold isZ at h
 split at h
 ·rw[of_decide_eq_true h]
 ·cases h
def qp(rv mv iv:PV)(σ:Sto):Option (Nat×Nat×Nat×List PV):=match rv,mv,iv with
 |.ref r 0,.mref mi,.ref it 0=>match Fv σ[it]? with
  |some (m,since,[])=>match mapOf σ[mi]? with
   |some (.i .i64,z0,_,xs)=>match UE xs with
    |some _=>match mapOf σ[m]? with
     |some (_,_,ks,vs)=>if isZ z0=true∧ks.length=since∧vs.length=since∧vs.all (U8 σ)=true then some (r,mi,it,vs) else none
     |none=>none
    |none=>none
   |_=>none
  |_=>none
 |_,_,_=>none
theorem mR{rv mv iv:PV}{σ:Sto}{r mi it:Nat}{vs:List PV}(h:qp rv mv iv σ=some (r,mi,it,vs)):rv=.ref r 0∧mv=.mref mi∧iv=.ref it 0∧∃m since d z ks kx xs,Fv σ[it]?=some (m,since,[])∧mapOf σ[mi]?=some (.i .i64,.int .i64 0,kx,ints xs)∧mapOf σ[m]?=some (d,z,ks,vs)∧ks.length=since∧vs.length=since∧vs.all (U8 σ)=true:=by
 unfold qp at h
 split at h
 case h_2=>cases h
 split at h
 case h_2=>cases h
 rename_i hit
 split at h
 case h_2=>cases h
 rename_i hm
 split at h
 case h_2=>cases h
 rename_i hxs
 split at h
 case h_2=>cases h
 rename_i hmm
 split at h
 case isFalse=>cases h
 rename_i hh;cases h;exact⟨rfl,rfl,rfl,_,_,_,_,_,_,_,hit,by rw[hm,rJ hh.1,Np hxs],hmm,hh.2.1,hh.2.2.1,hh.2.2.2⟩
def mX:HV:=fun call args σ=>match args with
 |[v]=>match jQ pur call 100000 asR (I5 [v] 0) σ with
  |some (ff1,σ1)=>match EI pur call 100000 (acV c19) ff1 σ1 with
   |some (.normal,ff2,σ2)=>match Dr ff2 3,Dr ff2 4,Dr ff2 80 with
    |some rv,some mv,some iv=>match qp rv mv iv σ2 with
     |some (r,_,it,vs)=>match EI pur call 100000 (acV cZ) [(3,some (.ref r 0))] (kill (it::vs.flatMap Py) σ2) with
      |some (.ret,ff3,σ3)=>match Gm ff3 [(2,none)] with
       |some ps=>(Fg ps).map fun x=>(x,σ3)
       |none=>none
      |_=>none
     |none=>none
    |_,_,_=>none
   |_=>none
  |none=>none
 |_=>none
def TE:CQ:=cA 123 EW
theorem zX:F6 Tryz.prog pur EW Tryz.f123=some TE:=by kernel_rfl
theorem vk:TE.ntmps+TE.extra=105:=by kernel_rfl
theorem vv:TE.ntmps=105:=by kernel_rfl
theorem vz:TE.nargs=1:=by kernel_rfl
theorem uk:TE.results=[(2,none)]:=by kernel_rfl
theorem eY:Gp Tryz.prog 123 mX:=by
 intro call hS args σ r σ' hown h;unfold mX at h
 split at h
 case h_2=>cases h
 rename_i v
 split at h
 case h_2=>cases h
 rename_i ff1 σ1 h1
 split at h
 case h_2=>cases h
 rename_i ff2 σ2 h2
 split at h
 case h_2=>cases h
 rename_i rv mv iv hg3 hg4 hg80
 split at h
 case h_2=>cases h
 rename_i rr mi it vs hv
 split at h
 case h_2=>cases h
 rename_i ff3 σ3 h3
 split at h
 case h_2=>cases h
 rename_i ps hps;obtain⟨x,hpk,hx⟩:=Ac.1 h;obtain⟨rfl,rfl⟩:x=r∧σ3=σ':=by cases hx;exact⟨rfl,rfl⟩
 obtain⟨rfl,rfl,rfl,m,since,d,z,ks,kx,xs,hit,hm,hmm,hk,hvl,hvs⟩:=mR hv;refine HT.fn (fn:=Tryz.f123) (c:=Zr) Tryz.func123 (by kernel_rfl) (by kernel_rfl) zX hown ⟨by rw[vz];rfl,by rw[vv];show 1≤105;decide⟩ fun cx n hx=>?_
 rw[vk,jJ];refine HT.chain hS hx Tryz.Cq.mixed _ _ _ _ _ kR okR h1 ?_
 refine HT.seq (R:=fun e ff σ4=>e=.normal∧Sub (fr3 (.ref rr 0) mi it) ff∧Iz σ2 vs it σ4) ?_ ?_ (fun e _ _ he h=>absurd h.1 he)
 ·refine HT.seq (R:=fun e ff σ4=>e=.normal∧ff2=ff∧σ2=σ4) (HT.code hS hx Tryz.Cq.mixed k19 (M8 (by simp)) h2 ⟨rfl,rfl,rfl⟩) ?_ (fun e _ _ he h=>absurd h.1 he)
  rintro ffa σa ⟨_,rfl,rfl⟩
  refine HT.block (R:=fun e ff σ4=>e=.exit 6∧Sub (fr3 (.ref rr 0) mi it) ff∧Iz σ2 vs it σ4) ?_ (fun _ _ h=>⟨rfl,h.2⟩) (fun _ _ _ he h=>absurd h.1 he)
  refine qB hx hm hit hmm hk hvl hvs (fun t y ht=>?_) fun ff4 σ4 h4 h5=>⟨rfl,h4,h5⟩
  have e:fr3 (.ref rr 0) mi it=L9 [3,4,80] ff2:=by
   show _=[(3,Dr ff2 3),(4,Dr ff2 4),(80,Dr ff2 80)];rw[hg3,hg4,hg80]
  rw[e] at ht;exact Hm _ _ t y ht
 ·rintro ff4 σ4 ⟨_,h4,h5⟩
  refine HT.dead h5.dead ?_
  exact HT.sub ((PP [3] rfl).trans h4) (HT.code hS hx Tryz.Cq.mixed kZ (M8 (by simp)) h3 ⟨.inr rfl,ps,by rw[uk];exact hps,hpk,Dead.refl _⟩)
end
end Go.Abs.Z

namespace Go.Abs.Z
noncomputable section
open Go.Proofs Go.RowKit
def VD:List (FuncId×HV):=[(145,Sw pur itr 1000 Zd),(122,Sw pur itr 1000 Ze),(15,OE),(219,fK),(123,mX)]
def VP(l:List (FuncId×HV))(f:FuncId):Option HV:=List.rec (motive:=fun _=>Option HV) none (fun p _ ih=>cond (Nat.beq p.1 f) (some p.2) ih) l
def oP(f:FuncId):Option HV:=VP VD f
theorem Nj:∀(l:List (FuncId×HV)),(∀x∈l,Gp Tryz.prog x.1 x.2)→∀f g,VP l f=some g→Gp Tryz.prog f g
 |[],_,f,g,h=>by cases h
 |p::l,hl,f,g,h=>by
  have h':cond (Nat.beq p.1 f) (some p.2) (VP l f)=some g:=h;cases hb:Nat.beq p.1 f with
  |true=>
   rw[hb] at h';cases h';have:p.1=f:=AV hb;rw[←this];exact hl p (BA ..)
  |false=>rw[hb] at h';exact Nj l (fun x hx=>hl x (BB _ hx)) f g h'
theorem VC:∀x∈VD,Gp Tryz.prog x.1 x.2:=by
 intro x hx;simp only[VD,Ay,AC,or_false] at hx;rcases hx with rfl | rfl | rfl | rfl | rfl
 ·exact LM UD mixed Tryz.func145 (by kernel_rfl) jF
 ·exact LM UD mixed Tryz.func122 (by kernel_rfl) jG
 ·exact TP
 ·exact jZ
 ·exact eY
theorem fA:∀f g,oP f=some g→Gp Tryz.prog f g:=Nj VD VC
def mM(n:Nat):Caller:=Mf pur oP tab n
theorem Qf(n:Nat):EX Tryz.prog (mM n):=Ie mixed Yz fA n
end
end Go.Abs.Z

namespace Go.Abs.Z
inductive Rch(src gen kill:Nat→Nat→Prop):Nat→Nat→Prop
 |gen {i v:Nat} (h:gen i v):Rch src gen kill i v
 |step {i j v:Nat} (hs:src i j) (h:Rch src gen kill j v) (hk:¬kill i v):Rch src gen kill i v
def Inn(src gen kill:Nat→Nat→Prop)(i v:Nat):Prop:=∃j,src i j∧Rch src gen kill j v
theorem Ph{src gen kill:Nat→Nat→Prop}{i v:Nat}:Rch src gen kill i v↔gen i v∨(Inn src gen kill i v∧¬kill i v):=
 ⟨fun h=>by
  cases h with
  |gen h=>exact .inl h
  |step hs h hk=>exact .inr ⟨⟨_,hs,h⟩,hk⟩,fun h=>by
  rcases h with h | ⟨⟨j,hs,h⟩,hk⟩
  ·exact .gen h
  ·exact .step hs h hk⟩
theorem SB{src gen kill T:Nat→Nat→Prop}(hg:∀i v,gen i v→T i v)(hs:∀i j v,src i j→T j v→¬kill i v→T i v){i v:Nat}(h:Rch src gen kill i v):T i v:=by
 induction h with
 |gen h=>exact hg _ _ h
 |step h1 _ h3 ih=>exact hs _ _ _ h1 ih h3
def Srt(l:List Int):Prop:=l.Pairwise (· < ·)
theorem TM:∀{l k:List Int},Srt l→Srt k→(∀x,x∈l↔x∈k)→l=k:=by
 intro l k hl hk h;have e:l.Perm k:=(List.perm_ext_iff_of_nodup (hl.imp fun h=>by omega) (hk.imp fun h=>by omega)).2 h
 exact e.eq_of_pairwise (le:=(·≤·)) (fun a b _ _ h1 h2=>Int.le_antisymm h1 h2) (hl.imp fun h=>by omega) (hk.imp fun h=>by omega)
theorem YE{l k:List Int}(hl:Srt l)(hk:Srt k)(h:∀x,x∈l→x∈k):l=k.filter fun x=>decide (x∈l):=
 TM hl (hk.filter _) fun x=>by simp;exact fun hx=>h x hx
theorem Xj{l k:List Int}(hl:Srt l)(hk:Srt k)(h:∀x,x∈l→x∈k):l.length≤k.length:=by
 rw[YE hl hk h];exact List.length_filter_le _ _
theorem YD{l k:List Int}(hl:Srt l)(hk:Srt k)(h:∀x,x∈l→x∈k)(he:l.length=k.length):l=k:=by
 have e:=YE hl hk h;refine TM hl hk fun x=>⟨h x,fun hx=>?_⟩
 have e2:(k.filter fun x=>decide (x∈l)).length=k.length:=by rw[←e];exact he
 have:=(List.length_filter_eq_length_iff.1 e2) x hx;simpa using this
def lst(p:Nat→Bool):List Int:=((List.range 1024).filter p).map Int.ofNat
theorem Y6(p:Nat→Bool):Srt (lst p):=by
 unfold Srt lst;rw[List.pairwise_map];exact(List.pairwise_lt_range.filter _).imp fun h=>Int.ofNat_lt.2 h
theorem Y5{p:Nat→Bool}{x:Int}:x∈lst p↔∃v:Nat,v<1024∧p v=true∧x=v:=by
 simp only[lst,List.mem_map,List.mem_filter,List.mem_range];exact⟨fun⟨v,⟨h1,h2⟩,h3⟩=>⟨v,h1,h2,h3.symm⟩,fun⟨v,h1,h2,h3⟩=>⟨v,⟨h1,h2⟩,h3.symm⟩⟩
def Iw(l:List Int)(n:Int):List Int:=if n∈l then l else l.takeWhile (fun x=>decide (x<n))++n::l.dropWhile (fun x=>decide (x<n))
def Gj(a b:List Int):List Int:=b.foldl Iw a
def Hf(set gen kill:List Int):List Int:=set.foldl (fun o x=>if x∈kill then o else Iw o x) gen
theorem SI{l:List Int}{n x:Int}:x∈Iw l n↔x∈l∨x=n:=by
 unfold Iw;split
 ·rename_i h;exact⟨.inl,fun h'=>h'.elim id fun e=>e▸h⟩
 ·have e:=List.takeWhile_append_dropWhile (p:=fun x=>decide (x<n)) (l:=l)
  constructor
  ·intro h;rcases List.mem_append.1 h with h | h
   ·exact .inl (e▸List.mem_append_left _ h)
   ·rcases List.mem_cons.1 h with h | h
    ·exact .inr h
    ·exact .inl (e▸List.mem_append_right _ h)
  ·rintro(h | h)
   ·rw[←e] at h;rcases List.mem_append.1 h with h | h
    ·exact List.mem_append_left _ h
    ·exact List.mem_append_right _ (List.mem_cons_of_mem _ h)
   ·exact List.mem_append_right _ (h▸List.mem_cons_self ..)
theorem tkW{l:List Int}{n:Int}:∀x∈l.takeWhile (fun x=>decide (x<n)),x<n:=by
 induction l with
 |nil=>intro x h;cases h
 |cons a l ih=>
  intro x h;rw[List.takeWhile_cons] at h
  split at h
  ·rename_i hc;rcases List.mem_cons.1 h with rfl | h
   ·simpa using hc
   ·exact ih x h
  ·cases h
theorem zU{l:List Int}{n:Int}(hl:Srt l):∀x∈l.dropWhile (fun x=>decide (x<n)),n≤x:=by
 induction l with
 |nil=>intro x h;cases h
 |cons a l ih=>
  intro x h;rw[List.dropWhile_cons] at h
  split at h
  ·exact ih (List.pairwise_cons.1 hl).2 x h
  ·rename_i hc;simp only[decide_eq_true_eq] at hc;rcases List.mem_cons.1 h with rfl | h
   ·omega
   ·have:=(List.pairwise_cons.1 hl).1 x h;omega
theorem Sr{l:List Int}{n:Int}(hl:Srt l):Srt (Iw l n):=by
 unfold Iw;split
 ·exact hl
 ·rename_i hn;have e:=List.takeWhile_append_dropWhile (p:=fun x=>decide (x<n)) (l:=l)
  have h1:∀x∈l.takeWhile (fun x=>decide (x<n)),x<n:=fun x h=>tkW x h
  have h2:∀x∈l.dropWhile (fun x=>decide (x<n)),n<x:=fun x h=>by
   have:=zU hl x h;have h3:x≠n:=fun e'=>hn (e'▸e▸List.mem_append_right _ h)
   omega
  refine List.pairwise_append.2 ⟨hl.sublist (List.takeWhile_sublist _),List.pairwise_cons.2 ⟨h2,hl.sublist (List.dropWhile_sublist _)⟩,fun a ha b hb=>?_⟩
  have:=h1 a ha;rcases List.mem_cons.1 hb with rfl | hb
  ·exact this
  ·have:=h2 b hb;omega
theorem Gy{b:List Int}{x:Int}:∀{a:List Int},x∈Gj a b↔x∈a∨x∈b:=by
 induction b with
 |nil=>intro a;simp[Gj]
 |cons y b ih=>
  intro a;have:=@ih (Iw a y);unfold Gj at this ⊢;rw[List.foldl_cons,this,SI,List.mem_cons,or_assoc]
theorem PY:∀(b:List Int) {a:List Int},Srt a→Srt (Gj a b)
 |[],_,h=>h
 |y::b,a,h=>PY b (Sr h)
theorem LC{set kill:List Int}{x:Int}:∀{gen:List Int},x∈Hf set gen kill↔x∈gen∨(x∈set∧x∉kill):=by
 induction set with
 |nil=>intro a;simp[Hf]
 |cons y b ih=>
  intro a;have:=@ih (if y∈kill then a else Iw a y)
  unfold Hf at this ⊢;rw[List.foldl_cons,this,List.mem_cons];by_cases hy:y∈kill
  ·rw[if_pos hy];constructor
   ·rintro(h | ⟨h,h2⟩)
    ·exact .inl h
    ·exact .inr ⟨.inr h,h2⟩
   ·rintro(h | ⟨h | h,h2⟩)
    ·exact .inl h
    ·subst h;exact absurd hy h2
    ·exact .inr ⟨h,h2⟩
  ·rw[if_neg hy,SI];constructor
   ·rintro((h | h) | ⟨h,h2⟩)
    ·exact .inl h
    ·subst h;exact .inr ⟨.inl rfl,hy⟩
    ·exact .inr ⟨.inr h,h2⟩
   ·rintro(h | ⟨h | h,h2⟩)
    ·exact .inl (.inl h)
    ·exact .inl (.inr h)
    ·exact .inr ⟨h,h2⟩
theorem Su{kill:List Int}:∀(set:List Int) {gen:List Int},Srt gen→Srt (Hf set gen kill)
 |[],_,h=>h
 |y::b,a,h=>by
  unfold Hf;rw[List.foldl_cons];refine Su b ?_
  split
  ·exact h
  ·exact Sr h
end Go.Abs.Z

namespace Go.Abs.Z
abbrev W:=List (BitVec 64)
def bit(w:W)(v:Nat):Bool:=(w.getD (v / 64) 0#64).getLsbD (v % 64)
def jn(a b:W):W:=List.zipWith (fun x y=>x ||| y) a b
def ps(b k g:W):W:=List.zipWith (fun x y=>x ||| y) (List.zipWith (fun x y=>x &&& ~~~y) b k) g
def zW:W:=List.replicate 16 0#64
def sb(w:W)(n:Nat):W:=w.set (n / 64) (w.getD (n / 64) 0#64 ||| 1#64 <<< (n % 64))
theorem RF(v:Nat):bit zW v=false:=by
 unfold bit zW;rw[List.getD_eq_getElem?_getD,List.getElem?_replicate]
 split<;>simp
theorem tQ{a b:W}(ha:a.length=16)(hb:b.length=16)(h:∀v,v<1024→bit a v=bit b v):a=b:=by
 apply List.ext_getElem (by omega)
 intro i h1 h2;apply BitVec.eq_of_getLsbD_eq;intro j hj;have:=h (i * 64+j) (by omega)
 unfold bit at this;rw[show(i * 64+j) / 64=i from by omega,show(i * 64+j) % 64=j from by omega,List.getD_eq_getElem?_getD,List.getD_eq_getElem?_getD,List.getElem?_eq_getElem h1,List.getElem?_eq_getElem h2] at this
 exact this
theorem XV{a b:W}(ha:a.length=16)(hb:b.length=16):(jn a b).length=16:=by simp[jn,ha,hb]
theorem NT{a b c:W}(ha:a.length=16)(hb:b.length=16)(hc:c.length=16):(ps a b c).length=16:=by simp[ps,ha,hb,hc]
theorem Hg:zW.length=16:=by simp[zW]
theorem dY{a:W}{n:Nat}(ha:a.length=16):(sb a n).length=16:=by simp[sb,ha]
theorem sN{a b:W}(ha:a.length=16)(hb:b.length=16){v:Nat}(hv:v<1024):bit (jn a b) v=(bit a v||bit b v):=by
 have h:v / 64<16:=by omega
 unfold bit jn;rw[List.getD_eq_getElem?_getD,List.getD_eq_getElem?_getD,List.getD_eq_getElem?_getD,List.getElem?_zipWith,List.getElem?_eq_getElem (l:=a) (by omega),List.getElem?_eq_getElem (l:=b) (by omega)]
 simp
theorem UU{b k g:W}(hb:b.length=16)(hk:k.length=16)(hg:g.length=16){v:Nat}(hv:v<1024):bit (ps b k g) v=(bit b v&&!bit k v||bit g v):=by
 have h:v / 64<16:=by omega
 have h2:v % 64<64:=by omega
 unfold bit ps;rw[List.getD_eq_getElem?_getD,List.getD_eq_getElem?_getD,List.getD_eq_getElem?_getD,List.getD_eq_getElem?_getD,List.getElem?_zipWith,List.getElem?_zipWith,List.getElem?_eq_getElem (l:=b) (by omega),List.getElem?_eq_getElem (l:=k) (by omega),List.getElem?_eq_getElem (l:=g) (by omega)]
 simp[h2]
theorem sM{w:W}{n v:Nat}(hw:w.length=16)(hn:n<1024)(hv:v<1024):bit (sb w n) v=(bit w v||decide (v=n)):=by
 have h:v / 64<16:=by omega
 have h1:n / 64<16:=by omega
 have h2:v % 64<64:=by omega
 unfold bit sb;by_cases he:v / 64=n / 64
 ·rw[he,List.getD_eq_getElem?_getD,List.getElem?_set_self (by omega)]
  simp only[Option.getD_some,BitVec.getLsbD_or,BitVec.getLsbD_shiftLeft,h2,decide_true,Bool.true_and];congr 1;by_cases hvn:v=n
  ·subst hvn;simp
  ·have hne:v % 64≠n % 64:=by omega
   by_cases hlt:v % 64<n % 64
   ·simp[hlt,hvn]
   ·have:v % 64 - n % 64≠0:=by omega
    simp[hlt,hvn,this]
 ·have hvn:v≠n:=fun e=>he (by rw[e])
  rw[List.getD_eq_getElem?_getD,List.getElem?_set_ne (by omega),←List.getD_eq_getElem?_getD]
  simp[hvn]
def ofL(l:List Int):W:=l.foldl (fun w n=>sb w n.toNat) zW
theorem Q5:∀(l:List Int) {w:W},w.length=16→(∀x∈l,0≤x∧x<1024)→(l.foldl (fun w n=>sb w n.toNat) w).length=16∧∀v,v<1024→(bit (l.foldl (fun w n=>sb w n.toNat) w) v=(bit w v||decide ((v:Int)∈l)))
 |[],w,hw,_=>⟨hw,fun v _=>by simp⟩
 |x::l,w,hw,h=>by
  obtain⟨h1,h2⟩:=Q5 l (w:=sb w x.toNat) (dY hw) fun y hy=>h y (List.mem_cons_of_mem _ hy)
  refine⟨h1,fun v hv=>?_⟩
  obtain⟨h3,h4⟩:=h x (List.mem_cons_self ..);rw[List.foldl_cons,h2 v hv,sM hw (by omega) hv,Bool.or_assoc]
  congr 1;have e:(v=x.toNat)↔(v:Int)=x:=by omega
  by_cases hx:(v:Int)=x<;>simp[e,hx]
theorem Pm{l:List Int}(h:∀x∈l,0≤x∧x<1024):(ofL l).length=16:=(Q5 l Hg h).1
theorem Zw{l:List Int}(h:∀x∈l,0≤x∧x<1024){v:Nat}(hv:v<1024):bit (ofL l) v=decide ((v:Int)∈l):=by
 have:=(Q5 l Hg h).2 v hv;rw[RF,Bool.false_or] at this;exact this
structure Sy where
 n:Nat
 src:Nat→List Nat
 gn:Nat→W
 kl:Nat→W
 hsrc:∀i j,i<n→j∈src i→j<n
 hgn:∀i,(gn i).length=16
 hkl:∀i,(kl i).length=16
def Dk{α:Type}(f:Nat→α)(i:Nat)(x:α):Nat→α:=fun j=>if j=i then x else f j
def Sy.inn(y:Sy)(S T:Nat→W)(i:Nat):W:=(y.src i).foldl (fun w j=>jn w (T j)) (S i)
structure St where
 S:Nat→W
 T:Nat→W
 c:Bool
def Sy.step(y:Sy)(s:St)(i:Nat):St:=
 let w:=y.inn s.S s.T i
 let x:=ps w (y.kl i) (y.gn i)
 if x=s.T i then⟨Dk s.S i w,s.T,s.c⟩ else⟨Dk s.S i w,Dk s.T i x,true⟩
def Sy.rnd(y:Sy)(S T:Nat→W):St:=(List.range y.n).foldl y.step ⟨S,T,false⟩
section
variable(y:Sy)
def Sy.sr(i j:Nat):Prop:=i<y.n∧j∈y.src i
def Sy.gen(i v:Nat):Prop:=i<y.n∧v<1024∧bit (y.gn i) v=true
def Sy.kill(i v:Nat):Prop:=bit (y.kl i) v=true
def Sy.R:=Rch y.sr y.gen y.kill
def Sy.In:=Inn y.sr y.gen y.kill
structure Gud(S T:Nat→W):Prop where
 s16:∀i,(S i).length=16
 t16:∀i,(T i).length=16
 sI:∀i v,i<y.n→v<1024→bit (S i) v=true→y.In i v
 tR:∀i v,i<y.n→v<1024→bit (T i) v=true→y.R i v
 tp:∀i v,i<y.n→v<1024→bit (T i) v=true→bit (ps (S i) (y.kl i) (y.gn i)) v=true
variable{y}
theorem Q6(T:Nat→W)(ht:∀i,(T i).length=16):∀(l:List Nat) (w:W),w.length=16→(l.foldl (fun w j=>jn w (T j)) w).length=16∧∀v,v<1024→(bit (l.foldl (fun w j=>jn w (T j)) w) v=true↔bit w v=true∨∃j∈l,bit (T j) v=true)
 |[],w,hw=>⟨hw,fun v _=>by simp⟩
 |x::l,w,hw=>by
  obtain⟨h1,h2⟩:=Q6 T ht l (jn w (T x)) (XV hw (ht x));refine⟨h1,fun v hv=>?_⟩
  rw[List.foldl_cons,h2 v hv,sN hw (ht x) hv,Bool.or_eq_true,or_assoc];simp
theorem Gud.init:Gud y (fun _=>zW) (fun _=>zW):=
 ⟨fun _=>Hg,fun _=>Hg,(fun i v _ _ h=>by rw[RF] at h;cases h),(fun i v _ _ h=>by rw[RF] at h;cases h),(fun i v _ _ h=>by rw[RF] at h;cases h)⟩
theorem Gud.Nq{S T:Nat→W}(h:Gud y S T)(i:Nat):(y.inn S T i).length=16:=(Q6 T h.t16 _ _ (h.s16 i)).1
theorem Gud.UF{S T:Nat→W}(h:Gud y S T)(i:Nat){v:Nat}(hv:v<1024):bit (y.inn S T i) v=true↔bit (S i) v=true∨∃j∈y.src i,bit (T j) v=true:=(Q6 T h.t16 _ _ (h.s16 i)).2 v hv
theorem Gud.qw{S T:Nat→W}(h:Gud y S T)(i:Nat){v:Nat}(hv:v<1024):bit (ps (S i) (y.kl i) (y.gn i)) v=true↔(bit (S i) v=true∧bit (y.kl i) v=false)∨bit (y.gn i) v=true:=by
 rw[UU (h.s16 i) (y.hkl i) (y.hgn i) hv];simp
theorem Gud.put{S T:Nat→W}(h:Gud y S T){i:Nat}(hi:i<y.n):Gud y (Dk S i (y.inn S T i)) T:=by
 have hb:=fun v (hv:v<1024)=>h.UF i hv
 refine⟨fun j=>?_,h.t16,fun j v hj hv=>?_,h.tR,fun j v hj hv ht=>?_⟩
 ·unfold Dk;split
  ·exact h.Nq i
  ·exact h.s16 j
 ·unfold Dk;split
  ·rename_i he;subst he;intro hb';rcases(hb v hv).1 hb' with h1 | ⟨k,hk,h1⟩
   ·exact h.sI j v hj hv h1
   ·exact⟨k,⟨hj,hk⟩,h.tR k v (y.hsrc j k hj hk) hv h1⟩
  ·exact h.sI j v hj hv
 ·have:=h.tp j v hj hv ht;unfold Dk;split
  ·rename_i he;subst he;rw[UU (h.Nq j) (y.hkl j) (y.hgn j) hv];rw[UU (h.s16 j) (y.hkl j) (y.hgn j) hv] at this;simp only[Bool.or_eq_true,Bool.and_eq_true,Bool.not_eq_true'] at this ⊢;rcases this with⟨h1,h2⟩ | h1
   ·exact .inl ⟨(hb v hv).2 (.inl h1),h2⟩
   ·exact .inr h1
  ·exact this
theorem Gud.pass{S T:Nat→W}(h:Gud y S T){i:Nat}(hi:i<y.n):Gud y S (Dk T i (ps (S i) (y.kl i) (y.gn i))):=by
 refine⟨h.s16,fun j=>?_,h.sI,fun j v hj hv=>?_,fun j v hj hv=>?_⟩
 ·unfold Dk;split
  ·exact NT (h.s16 i) (y.hkl i) (y.hgn i)
  ·exact h.t16 j
 ·unfold Dk;split
  ·rename_i he;subst he;intro hb;rcases(h.qw j hv).1 hb with⟨h1,h2⟩ | h1
   ·exact Ph.2 (.inr ⟨h.sI j v hj hv h1,by simp[Sy.kill,h2]⟩)
   ·exact Ph.2 (.inl ⟨hj,hv,h1⟩)
  ·exact h.tR j v hj hv
 ·unfold Dk;split
  ·rename_i he;subst he;exact id
  ·exact h.tp j v hj hv
theorem Gud.step{s:St}(h:Gud y s.S s.T){i:Nat}(hi:i<y.n):Gud y (y.step s i).S (y.step s i).T:=by
 have h1:=h.put hi;have e:Dk s.S i (y.inn s.S s.T i) i=y.inn s.S s.T i:=by simp[Dk]
 unfold Sy.step;dsimp only;split
 ·exact h1
 ·have:=h1.pass hi;rw[e] at this;exact this
theorem Gud.fold:∀(l:List Nat) (s:St),(∀i∈l,i<y.n)→Gud y s.S s.T→Gud y (l.foldl y.step s).S (l.foldl y.step s).T
 |[],_,_,h=>h
 |i::l,s,hl,h=>Gud.fold l (y.step s i) (fun j hj=>hl j (List.mem_cons_of_mem _ hj)) (h.step (hl i (List.mem_cons_self ..)))
theorem Gud.rnd{S T:Nat→W}(h:Gud y S T):Gud y (y.rnd S T).S (y.rnd S T).T:=Gud.fold _ _ (fun i hi=>List.mem_range.1 hi) h
theorem Q8:∀(l:List Nat) (s:St),(∀i∈l,i<y.n)→l.Nodup→(l.foldl y.step s).c=false→s.c=false∧(l.foldl y.step s).T=s.T∧(∀i∈l,(l.foldl y.step s).S i=y.inn s.S s.T i∧ps (y.inn s.S s.T i) (y.kl i) (y.gn i)=s.T i)∧(∀i,i∉l→(l.foldl y.step s).S i=s.S i)
 |[],s,_,_,h=>⟨h,rfl,(fun i h=>by cases h),fun i _=>rfl⟩
 |i::l,s,hl,hn,h=>by
  obtain⟨hni,hn⟩:=List.nodup_cons.1 hn;obtain⟨h1,h2,h3,h4⟩:=Q8 l (y.step s i) (fun j hj=>hl j (List.mem_cons_of_mem _ hj)) hn h
  have hst:ps (y.inn s.S s.T i) (y.kl i) (y.gn i)=s.T i∧y.step s i=⟨Dk s.S i (y.inn s.S s.T i),s.T,s.c⟩:=by
   unfold Sy.step at h1 ⊢;dsimp only at h1 ⊢;split
   ·rename_i e;exact⟨e,rfl⟩
   ·rename_i e;rw[if_neg e] at h1;cases h1
  obtain⟨he,hst⟩:=hst;rw[List.foldl_cons];rw[hst] at h1 h2 h3 h4 ⊢;dsimp only at h1 h2 h3 h4;refine⟨h1,h2,fun j hj=>?_,fun j hj=>?_⟩
  ·rcases List.mem_cons.1 hj with rfl | hj
   ·exact⟨by rw[h4 j hni];simp[Dk],he⟩
   ·have hji:j≠i:=fun e=>hni (e▸hj)
    have:y.inn (Dk s.S i (y.inn s.S s.T i)) s.T j=y.inn s.S s.T j:=by unfold Sy.inn;simp[Dk,hji]
    have h5:=h3 j hj;rw[this] at h5;exact h5
  ·have hji:j≠i:=fun e=>hj (e▸List.mem_cons_self ..)
   rw[h4 j fun h=>hj (List.mem_cons_of_mem _ h)]
   simp[Dk,hji]
theorem Gud.still{S T:Nat→W}(h:Gud y S T)(hc:(y.rnd S T).c=false):(∀i v,i<y.n→v<1024→(bit ((y.rnd S T).S i) v=true↔y.In i v))∧∀i v,i<y.n→v<1024→(bit ((y.rnd S T).T i) v=true↔y.R i v):=by
 have hg:=h.rnd;obtain⟨_,h2,h3,_⟩:=Q8 (List.range y.n) ⟨S,T,false⟩ (fun i hi=>List.mem_range.1 hi) List.nodup_range hc
 change (y.rnd S T).T=T at h2;have h3:∀i,i<y.n→(y.rnd S T).S i=y.inn S T i∧ps (y.inn S T i) (y.kl i) (y.gn i)=T i:=fun i hi=>h3 i (List.mem_range.2 hi)
 have hps:∀i v,i<y.n→v<1024→(bit (T i) v=true↔(bit (y.inn S T i) v=true∧bit (y.kl i) v=false)∨bit (y.gn i) v=true):=fun i v hi hv=>by
  conv=>lhs;rw[←(h3 i hi).2]
  rw[UU (h.Nq i) (y.hkl i) (y.hgn i) hv];simp
 have hR:∀i v,y.R i v→i<y.n→bit (T i) v=true:=by
  intro i v hr;refine SB (T:=fun i v=>i<y.n→bit (T i) v=true) ?_ ?_ hr
  ·rintro i v ⟨hi,hv,hg⟩ _
   exact(hps i v hi hv).2 (.inr hg)
  ·rintro i j v ⟨hi,hj⟩ ht hk _
   have hT:=ht (y.hsrc i j hi hj)
   have hv:v<1024:=by
    refine Classical.byContradiction fun hc=>?_
    unfold bit at hT;rw[List.getD_eq_getElem?_getD,List.getElem?_eq_none (by rw[h.t16];omega)] at hT
    simp at hT
   exact(hps i v hi hv).2 (.inl ⟨(h.UF i hv).2 (.inr ⟨j,hj,hT⟩),by simpa [Sy.kill] using hk⟩)
 refine⟨fun i v hi hv=>⟨hg.sI i v hi hv,?_⟩,fun i v hi hv=>⟨hg.tR i v hi hv,fun hr=>by rw[h2];exact hR i v hr hi⟩⟩
 rintro⟨j,⟨_,hj⟩,hr⟩
 rw[(h3 i hi).1,h.UF i hv];exact .inr ⟨j,hj,hR j v hr (y.hsrc i j hi hj)⟩
def cnt(w:W):Nat:=((List.range 1024).filter (bit w)).length
def tot(T:Nat→W)(n:Nat):Nat:=((List.range n).map fun i=>cnt (T i)).sum
theorem r9(w:W):cnt w≤1024:=by
 have:=List.length_filter_le (bit w) (List.range 1024);simpa [cnt] using this
theorem cnt_lt{a b:W}(ha:a.length=16)(hb:b.length=16)(h:∀v,v<1024→bit a v=true→bit b v=true)(hne:b≠a):cnt a<cnt b:=by
 have hex:∃v,v<1024∧bit b v=true∧bit a v=false:=by
  refine Classical.byContradiction fun hc=>hne (tQ hb ha fun v hv=>?_)
  cases h1:bit a v with
  |true=>exact h v hv h1
  |false=>
   cases h2:bit b v with
   |false=>rfl
   |true=>exact absurd ⟨v,hv,h2,h1⟩ hc
 obtain⟨v,hv,h1,h2⟩:=hex
 have e:(List.range 1024).filter (bit a)=((List.range 1024).filter (bit b)).filter (bit a):=by
  rw[List.filter_filter];refine List.filter_congr fun x hx=>?_
  have:=h x (List.mem_range.1 hx);cases ha:bit a x<;>simp_all
 unfold cnt;rw[e];exact List.length_filter_lt_length_iff_exists.2 ⟨v,List.mem_filter.2 ⟨List.mem_range.2 hv,h1⟩,by simp[h2]⟩
theorem kD{T:Nat→W}{n i:Nat}{x:W}(hi:i<n)(h:cnt (T i) < cnt x):tot T n<tot (Dk T i x) n:=by
 unfold tot
 induction n with
 |zero=>omega
 |succ n ih=>
  rw[List.range_succ,List.map_append,List.map_append,List.sum_append,List.sum_append];simp only[List.map_cons,List.map_nil,List.sum_cons,List.sum_nil];by_cases he:i=n
  ·subst he
   have:((List.range i).map fun j=>cnt (Dk T i x j))=(List.range i).map fun j=>cnt (T j):=List.map_congr_left fun j hj=>by
    have:=List.mem_range.1 hj;simp[Dk,show j≠i from by omega]
   rw[this];simp[Dk];omega
  ·have:=ih (by omega)
   simp only[Dk,show ¬n=i from fun e=>he e.symm,if_false] at this ⊢
   omega
theorem pQ(T:Nat→W)(n:Nat):tot T n≤1024 * n:=by
 unfold tot
 induction n with
 |zero=>simp
 |succ n ih=>
  rw[List.range_succ,List.map_append,List.sum_append];simp only[List.map_cons,List.map_nil,List.sum_cons,List.sum_nil];have:=r9 (T n);omega
theorem dm{s:St}(h:Gud y s.S s.T){i:Nat}(hi:i<y.n):(y.step s i).c=s.c∧tot (y.step s i).T y.n=tot s.T y.n∨(y.step s i).c=true∧tot s.T y.n<tot (y.step s i).T y.n:=by
 unfold Sy.step;dsimp only;split
 ·exact .inl ⟨rfl,rfl⟩
 ·rename_i hne;refine .inr ⟨rfl,kD hi (cnt_lt (h.t16 i) (NT (h.Nq i) (y.hkl i) (y.hgn i)) (fun v hv ht=>?_) hne)⟩
  have:=(h.put hi).tp i v hi hv ht;simpa [Dk] using this
theorem Wp:∀(l:List Nat) (s:St),(∀i∈l,i<y.n)→Gud y s.S s.T→(l.foldl y.step s).c=s.c∧tot (l.foldl y.step s).T y.n=tot s.T y.n∨(l.foldl y.step s).c=true∧tot s.T y.n<tot (l.foldl y.step s).T y.n
 |[],_,_,_=>.inl ⟨rfl,rfl⟩
 |i::l,s,hl,h=>by
  have hi:=hl i (List.mem_cons_self ..);have h1:=dm h hi;have h2:=Wp l (y.step s i) (fun j hj=>hl j (List.mem_cons_of_mem _ hj)) (h.step hi)
  rw[List.foldl_cons];rcases h1 with⟨a,b⟩ | ⟨a,b⟩<;>rcases h2 with⟨c,d⟩ | ⟨c,d⟩
  ·exact .inl ⟨c.trans a,d.trans b⟩
  ·exact .inr ⟨c,by omega⟩
  ·exact .inr ⟨c.trans a,by omega⟩
  ·exact .inr ⟨c,by omega⟩
theorem mQ{S T:Nat→W}(h:Gud y S T)(hc:(y.rnd S T).c=true):tot T y.n<tot (y.rnd S T).T y.n:=by
 rcases Wp (List.range y.n) ⟨S,T,false⟩ (fun i hi=>List.mem_range.1 hi) h with⟨h1,_⟩ | ⟨_,h2⟩
 ·have:(y.rnd S T).c=false:=h1;rw[this] at hc;cases hc
 ·exact h2
end
end Go.Abs.Z

namespace Go.Abs.Z
open Go.Proofs Go.RowKit
def ZE:List PV→Option W
 |[]=>some []
 |v::l=>match v,ZE l with
  |.int .u64 n,some r=>if 0≤n∧n<18446744073709551616 then some (BitVec.ofInt 64 n::r) else none
  |_,_=>none
def wOf(σ:Sto)(v:PV):Option W:=match v with
 |.aptr id g size i off=>match σ[id]? with
  |some cs=>match Ej cs g 16 with
   |some es=>match es[i]? with
    |some (.agg l)=>match ZE l with
     |some w=>if size=16∧off=0∧w.length=16 then some w else none
     |none=>none
    |_=>none
   |none=>none
  |none=>none
 |_=>none
def FJ(σ:Sto)(l:List Int):PV×Sto:=match l with
 |[]=>(.nils,σ)
 |_=>(.arr σ.length (l.length - 1) 0 l.length 1,σ++[[.arrv (l.length - 1) 1 (l.map (PV.int .i64))]])
def Qu:HV:=fun _ args σ=>match args with
 |[v]=>(wOf σ v).map fun w=>FJ σ (lst (bit w))
 |_=>none
end Go.Abs.Z

namespace Go.Abs.Z
open Go.Proofs Go.RowKit
set_option linter.unusedVariables false
theorem MI{op:BinOp}{k k':IntKind}{a b:Int}{r:PV}(h:JP op (.int k a) (.int k' b)=some r):AJ (.bin op 0) [.int k a,.int k' b]=some [some r]:=by
 simp only[AJ,bN,if_true,h];rfl
theorem tZ(X m:Nat)(hm:m<64):AJ (.bin .shr 0) [.int .u64 (X:Nat),.int .i64 (m:Nat)]=some [some (.int .u64 ((X / 2 ^ m:Nat):Int))]:=by
 have h1:Go.binOp .shr 0 (.int .u64 (X:Nat)) (.int .i64 (m:Nat))=.pure (.int .u64 ((X / 2 ^ m:Nat):Int)):=by
  show Op.shift .shr .u64 (X:Nat) .i64 (m:Nat)=_;unfold Op.shift;have:¬((m:Nat):Int) < 0:=by omega
  rw[if_neg this];simp only[BN];have hb:IntKind.u64.bits=64:=rfl;rw[hb,Nat.min_eq_left (by omega)]
  show Sem.pure (Value.int IntKind.u64 (Int.fdiv (X:Nat) (2 ^ m)))=_;congr 2;rw[Int.fdiv_eq_ediv_of_nonneg _ (by exact_mod_cast Ff _)]
  exact_mod_cast rfl
 refine MI ?_
 simp only[JP,Jp,if_true,h1]
theorem d9(n d:Nat)(hn:n<4000000000)(hd:0<d):AJ (.bin .quo 0) [.int .i64 (n:Nat),.int .i64 (d:Nat)]=some [some (.int .i64 ((n / d:Nat):Int))]:=by
 have h1:Go.binOp .quo 0 (.int .i64 (n:Nat)) (.int .i64 (d:Nat))=.pure (.int .i64 ((n / d:Nat):Int)):=by
  show Op.intDiv .quo .i64 (n:Nat) (d:Nat)=_;unfold Op.intDiv;rw[if_neg (by omega)]
  show Sem.pure (Value.int IntKind.i64 (IntKind.i64.wrap (Int.tdiv (n:Nat) (d:Nat))))=_
  have e:IntKind.i64.wrap (Int.tdiv (n:Nat) (d:Nat))=((n / d:Nat):Int):=by
   have hle:=Nat.div_le_self n d;show IntKind.i64.wrap ((n / d:Nat):Int)=_;generalize n / d=q at hle;rw[IntKind.wrap_i64];omega
  rw[e]
 refine MI ?_
 simp only[JP,Jp,WV,Bool.false_eq_true,if_false,if_true,h1]
theorem dZ(n d:Nat)(hd:0<d):AJ (.bin .rem 0) [.int .i64 (n:Nat),.int .i64 (d:Nat)]=some [some (.int .i64 ((n % d:Nat):Int))]:=by
 have h1:Go.binOp .rem 0 (.int .i64 (n:Nat)) (.int .i64 (d:Nat))=.pure (.int .i64 ((n % d:Nat):Int)):=by
  show Op.intDiv .rem .i64 (n:Nat) (d:Nat)=_;unfold Op.intDiv;rw[if_neg (by omega)]
  rfl
 refine MI ?_
 simp only[JP,Jp,WV,Bool.false_eq_true,if_false,if_true,h1]
theorem bvW(X:BitVec 64):BitVec.ofInt 64 (X.toNat:Int)=X:=by
 apply BitVec.eq_of_toNat_eq;rw[BitVec.toNat_ofInt];have:=X.isLt;omega
theorem tO(X:BitVec 64):IntKind.u64.wrap (X.toNat:Int)=X.toNat:=by
 have:=X.isLt;rw[IntKind.wrap_u64];omega
theorem Xn{op:BinOp}{r:BitVec 64→BitVec 64→BitVec 64}(hop:(op=.or∧r=fun x y=>x ||| y)∨(op=.and∧r=fun x y=>x &&& y)∨(op=.andNot∧r=fun x y=>x &&& ~~~y))(X Y:BitVec 64):
  AJ (.bin op 0) [.int .u64 (X.toNat:Int),.int .u64 (Y.toNat:Int)]=some [some (.int .u64 ((r X Y).toNat:Int))]:=by
 have key:∀(Z:BitVec 64),(Sem.pure (Value.int IntKind.u64 (IntKind.u64.wrap (Z.toNat:Int))))=Sem.pure (Value.int IntKind.u64 (Z.toNat:Int)):=fun Z=>by rw[tO]
 rcases hop with⟨rfl,rfl⟩ | ⟨rfl,rfl⟩ | ⟨rfl,rfl⟩
 ·have h1:Go.binOp .or 0 (.int .u64 (X.toNat:Int)) (.int .u64 (Y.toNat:Int))=.pure (.int .u64 ((X ||| Y).toNat:Int)):=by
   show Sem.pure (Value.int IntKind.u64 (IntKind.u64.wrap ((BitVec.ofInt 64 (X.toNat:Int) ||| BitVec.ofInt 64 (Y.toNat:Int)).toNat:Int)))=_
   rw[bvW,bvW];exact key _
  refine MI ?_
  simp only[JP,Jp,WV,Bool.false_eq_true,if_false,if_true,h1]
 ·have h1:Go.binOp .and 0 (.int .u64 (X.toNat:Int)) (.int .u64 (Y.toNat:Int))=.pure (.int .u64 ((X &&& Y).toNat:Int)):=by
   show Sem.pure (Value.int IntKind.u64 (IntKind.u64.wrap ((BitVec.ofInt 64 (X.toNat:Int) &&& BitVec.ofInt 64 (Y.toNat:Int)).toNat:Int)))=_;rw[bvW,bvW];exact key _
  refine MI ?_
  simp only[JP,Jp,WV,Bool.false_eq_true,if_false,if_true,h1]
 ·have h1:Go.binOp .andNot 0 (.int .u64 (X.toNat:Int)) (.int .u64 (Y.toNat:Int))=.pure (.int .u64 ((X &&& ~~~Y).toNat:Int)):=by
   show Sem.pure (Value.int IntKind.u64 (IntKind.u64.wrap ((BitVec.ofInt 64 (X.toNat:Int) &&& ~~~ BitVec.ofInt 64 (Y.toNat:Int)).toNat:Int)))=_;rw[bvW,bvW];exact key _
  refine MI ?_
  simp only[JP,Jp,WV,Bool.false_eq_true,if_false,if_true,h1]
theorem qd(Y:Nat)(hY:Y<18446744073709551616):AJ (.bin .and 0) [.int .u64 (Y:Nat),.int .u64 1]=some [some (.int .u64 ((Y % 2:Nat):Int))]:=by
 have h:=Xn (op:=.and) (r:=fun x y=>x &&& y) (.inr (.inl ⟨rfl,rfl⟩)) (BitVec.ofNat 64 Y) 1#64
 have e1:(BitVec.ofNat 64 Y).toNat=Y:=by rw[BitVec.toNat_ofNat];omega
 have e2:(1#64:BitVec 64).toNat=1:=rfl;rw[BitVec.toNat_and,e1,e2,Nat.and_one_is_mod] at h;exact h
theorem uf(X:BitVec 64)(m:Nat):decide (((X.toNat / 2 ^ m % 2:Nat):Int)=1)=X.getLsbD m:=by
 rw[BitVec.getLsbD,Nat.testBit_eq_decide_div_mod_eq];congr 1;exact propext (by omega)
end Go.Abs.Z

namespace Go.Abs.Z
noncomputable section
open Go.Proofs Go.RowKit
set_option linter.unusedVariables false
def RD:Code:=Tryz.f49.body.getD .skip
def y0:=RD.s1
def y1:=RD.s2.s1
def y2:=RD.s2.s2.s1.s1
def yL:=RD.s2.s2.s1.s2.b1.l1
def yZ:=RD.s2.s2.s2
def y3:=yL.s1
def yK:=yL.s2.s1
def y4:=yL.s2.s2.s1.b1.s1
def y5:=yL.s2.s2.s1.b1.s2.s1
def y6:=yL.s2.s2.s1.b1.s2.s2
def y7:=yL.s2.s2.s2
theorem sqp{σ:Sto}{k:PK}{vs:List PV}{rs:List (Option PV)}(h:AJ k vs=some rs)(n:Nat):sem pur (R15 n) (.p k) vs σ=some (rs,σ):=by
 show(AJ k vs).map (·,σ)=_;rw[h];rfl
theorem sqr{σ:Sto}{k:RK}{vs:List PV}{rs:List (Option PV)}(h:Cs k vs σ=some rs)(n:Nat):sem pur (R15 n) (.r k) vs σ=some (rs,σ):=by
 show(Cs k vs σ).map (·,σ)=_;rw[h];rfl
theorem AvK(a b:Int):(a==b)=decide (a=b):=by by_cases h:a=b<;>simp[h]
theorem eqD(k:IntKind)(a b:Int):AJ (.bin .eql 0) [.int k a,.int k b]=some [some (.bool (decide (a=b)))]:=by
 rw[←AvK];cases k<;>rfl
theorem jK:RD=.seq y0 (.seq y1 (.seq (.seq y2 (.block 0 (.loop yL))) yZ)):=by kernel_rfl
theorem tN:yL=.seq y3 (.seq yK (.seq (.block 1 (.seq y4 (.seq y5 y6))) y7)):=by kernel_rfl
def acL(c:Code):Dh:=(comp Tryz.prog pur Iq c).getD .skip
theorem ky0:comp Tryz.prog pur Iq y0=some (acL y0):=by kernel_rfl
theorem ky1:comp Tryz.prog pur Iq y1=some (acL y1):=by kernel_rfl
theorem ky2:comp Tryz.prog pur Iq y2=some (acL y2):=by kernel_rfl
theorem kyZ:comp Tryz.prog pur Iq yZ=some (acL yZ):=by kernel_rfl
theorem ky3:comp Tryz.prog pur Iq y3=some (acL y3):=by kernel_rfl
theorem kyK:comp Tryz.prog pur Iq yK=some (acL yK):=by kernel_rfl
theorem ky4:comp Tryz.prog pur Iq y4=some (acL y4):=by kernel_rfl
theorem ky5:comp Tryz.prog pur Iq y5=some (acL y5):=by kernel_rfl
theorem ky6:comp Tryz.prog pur Iq y6=some (acL y6):=by kernel_rfl
theorem ky7:comp Tryz.prog pur Iq y7=some (acL y7):=by kernel_rfl
theorem AjF:([y0,y1,y2,yZ,y3,yK,y4,y5,y6,y7].all fun c=>El 25 (acL c))=true:=by kernel_rfl
theorem NV{c:Code}(h:c∈[y0,y1,y2,yZ,y3,yK,y4,y5,y6,y7]):El 25 (acL c)=true:=Ao.1 AjF c h
abbrev frL(v out:PV)(n:Nat):FF:=[(0,some v),(3,some out),(5,some (.int .i64 (n:Nat)))]
def Ml(out:PV):Prop:=out=.nils∨∃i g l,out=.arr i g 0 l 1
section
variable{cx:Cx}{n:Nat}{ff0:FF}{σ:Sto}{Q:Bp→FF→Sto→Prop}{a b c d e:Nat}{out:PV}{j:Nat}
abbrev vA(a b c d e:Nat):PV:=.aptr a b c d e
theorem w0(hx:Dt cx Iq)(hs:Sub [(0,some (vA a b c d e))] ff0)(hq:∀ff1,Sub [(0,some (vA a b c d e))] ff1→Q .normal ff1 σ):HT Tryz.prog cx 25 n y0 ff0 σ Q:=
 HT.pk (R:=R15) (fun _=>Cb) hx Tryz.Cq.mixed ky0 (NV (by simp)) [0] [] (by kernel_rfl) hs hq
theorem w1(hx:Dt cx Iq)(hs:Sub [(0,some (vA a b c d e))] ff0)(hq:∀ff1,Sub [(0,some (vA a b c d e)),(3,some .nils)] ff1→Q .normal ff1 σ):HT Tryz.prog cx 25 n y1 ff0 σ Q:=
 HT.pk (R:=R15) (fun _=>Cb) hx Tryz.Cq.mixed ky1 (NV (by simp)) [0,3] [] (by kernel_rfl) hs hq
theorem w2(hx:Dt cx Iq)(hs:Sub [(0,some (vA a b c d e)),(3,some .nils)] ff0)(hq:∀ff1,Sub (frL (vA a b c d e) .nils 0) ff1→Q .normal ff1 σ):HT Tryz.prog cx 25 n y2 ff0 σ Q:=
 HT.pk (R:=R15) (fun _=>Cb) hx Tryz.Cq.mixed ky2 (NV (by simp)) [0,3,5] [] (by kernel_rfl) hs hq
theorem wZ(ho:Ml out)(hx:Dt cx Iq)(hs:Sub [(3,some out)] ff0)(hq:∀ff1,Sub [(2,some out)] ff1→Q .ret ff1 σ):HT Tryz.prog cx 25 n yZ ff0 σ Q:=by
 rcases ho with rfl | ⟨i,g,l,rfl⟩
 all_goals exact HT.pk (R:=R15) (fun _=>Cb) hx Tryz.Cq.mixed kyZ (NV (by simp)) [2] [] (by kernel_rfl) hs hq
theorem w3(hx:Dt cx Iq)(hs:Sub (frL (vA a b c d e) out j) ff0)(hq:∀ff1,Sub ((6,some (.bool (decide (((j:Nat):Int) < 1024))))::frL (vA a b c d e) out j) ff1→Q .normal ff1 σ):HT Tryz.prog cx 25 n y3 ff0 σ Q:=
 HT.pk (R:=R15) (fun _=>Cb) hx Tryz.Cq.mixed ky3 (NV (by simp)) [6,0,3,5] [sq 0 (k:=.p (.bin .lss 0)) (vs:=[.int .i64 (j:Nat),.int .i64 1024]) (rs:=[some (.bool (decide (((j:Nat):Int) < 1024)))]) (σ:=σ) (σ':=σ) (fun n=>rfl)] (by kernel_rfl) hs hq
theorem wK{p:Bool}(hx:Dt cx Iq)(hs:Sub ((6,some (.bool p))::frL (vA a b c d e) out j) ff0)(hq:∀ff1,Sub (frL (vA a b c d e) out j) ff1→Q (if p then .normal else .exit 0) ff1 σ):HT Tryz.prog cx 25 n yK ff0 σ Q:=by
 cases p with
 |true=>exact HT.pk (R:=R15) (fun _=>Cb) hx Tryz.Cq.mixed kyK (NV (by simp)) [0,3,5] [] (by kernel_rfl) hs hq
 |false=>exact HT.pk (R:=R15) (fun _=>Cb) hx Tryz.Cq.mixed kyK (NV (by simp)) [0,3,5] [] (by kernel_rfl) hs hq
theorem w4(hx:Dt cx Iq)(hs:Sub (frL (vA a b c d e) out j) ff0)(hq:∀ff1,Sub ((4,some (.int .i64 (j:Nat)))::frL (vA a b c d e) out j) ff1→Q .normal ff1 σ):HT Tryz.prog cx 25 n y4 ff0 σ Q:=
 HT.pk (R:=R15) (fun _=>Cb) hx Tryz.Cq.mixed ky4 (NV (by simp)) [4,0,3,5] [] (by kernel_rfl) hs hq
theorem w5{X:BitVec 64}(hj:j<1024)(hx:Dt cx Iq)(h1:Cs (.ld 1 false) [.aptr a b c d (e+j / 64 * 1)] σ=some [some (.int .u64 (X.toNat:Int))])(hs:Sub ((4,some (.int .i64 (j:Nat)))::frL (vA a b c d e) out j) ff0)(hq:∀ff1,Sub ((18,some (.bool (X.getLsbD (j % 64))))::(4,some (.int .i64 (j:Nat)))::frL (vA a b c d e) out j) ff1→Q .normal ff1 σ):HT Tryz.prog cx 25 n y5 ff0 σ Q:=by
 have hX:=X.isLt;have hsh:=tZ X.toNat (j % 64) (Nat.mod_lt _ (by decide))
 have han:=qd (X.toNat / 2 ^ (j % 64)) (Nat.lt_of_le_of_lt (Nat.div_le_self _ _) hX)
 have hix:AJ (.ixa 16 1 false) [vA a b c d e,.int .i64 ((j / 64:Nat):Int)]=some [some (.aptr a b c d (e+j / 64 * 1))]:=by
  simp only[AJ,ixV];rw[if_pos (by omega)]
  simp only[faV,BN];rfl
 rw[←uf] at hq
 exact HT.pk (R:=R15) (fun _=>Cb) hx Tryz.Cq.mixed ky5 (NV (by simp)) [18,4,0,3,5] [
  sq 2 (k:=.p (.bin .quo 0)) (vs:=[.int .i64 (j:Nat),.int .i64 64]) (rs:=[some (.int .i64 ((j / 64:Nat):Int))]) (σ:=σ) (σ':=σ) (sqp (d9 j 64 (by omega) (by decide))),
  sq 1 (k:=.p (.ixa 16 1 false)) (vs:=[vA a b c d e,.int .i64 ((j / 64:Nat):Int)]) (rs:=[some (.aptr a b c d (e+j / 64 * 1))]) (σ:=σ) (σ':=σ) (sqp hix),
  sq 0 (k:=.r (.ld 1 false)) (vs:=[.aptr a b c d (e+j / 64 * 1)]) (rs:=[some (.int .u64 (X.toNat:Int))]) (σ:=σ) (σ':=σ) (sqr h1),
  sq 1 (k:=.p (.bin .rem 0)) (vs:=[.int .i64 (j:Nat),.int .i64 64]) (rs:=[some (.int .i64 ((j % 64:Nat):Int))]) (σ:=σ) (σ':=σ) (sqp (dZ j 64 (by decide))),
  sq 0 (k:=.p (.bin .shr 0)) (vs:=[.int .u64 (X.toNat:Int),.int .i64 ((j % 64:Nat):Int)]) (rs:=[some (.int .u64 ((X.toNat / 2 ^ (j % 64):Nat):Int))]) (σ:=σ) (σ':=σ) (sqp hsh),
  sq 0 (k:=.p (.bin .and 0)) (vs:=[.int .u64 ((X.toNat / 2 ^ (j % 64):Nat):Int),.int .u64 1]) (rs:=[some (.int .u64 ((X.toNat / 2 ^ (j % 64) % 2:Nat):Int))]) (σ:=σ) (σ':=σ) (sqp han),
  sq 0 (k:=.p (.bin .eql 0)) (vs:=[.int .u64 ((X.toNat / 2 ^ (j % 64) % 2:Nat):Int),.int .u64 1]) (rs:=[some (.bool (decide (((X.toNat / 2 ^ (j % 64) % 2:Nat):Int)=1)))]) (σ:=σ) (σ':=σ) (sqp (eqD .u64 _ _))] (by kernel_rfl) hs hq
theorem w6F(hx:Dt cx Iq)(hs:Sub ((18,some (.bool false))::(4,some (.int .i64 (j:Nat)))::frL (vA a b c d e) out j) ff0)(hq:∀ff1,Sub (frL (vA a b c d e) out j) ff1→Q .normal ff1 σ):HT Tryz.prog cx 25 n y6 ff0 σ Q:=
 HT.pk (R:=R15) (fun _=>Cb) hx Tryz.Cq.mixed ky6 (NV (by simp)) [0,3,5] [] (by kernel_rfl) hs hq
theorem w6T{i g l:Nat}{σ':Sto}(ho:Ml out)(hx:Dt cx Iq)(h2:Cu pur GI (.Gg 1) [out,.slice true 1 [.int .i64 (j:Nat)]] σ=some ([some (.arr i g 0 l 1)],σ'))(hs:Sub ((18,some (.bool true))::(4,some (.int .i64 (j:Nat)))::frL (vA a b c d e) out j) ff0)(hq:∀ff1,Sub (frL (vA a b c d e) (.arr i g 0 l 1) j) ff1→Q .normal ff1 σ'):HT Tryz.prog cx 25 n y6 ff0 σ Q:=by
 rcases ho with rfl | ⟨i',g',l',rfl⟩
 ·exact HT.pk (R:=R15) (fun _=>Cb) hx Tryz.Cq.mixed ky6 (NV (by simp)) [0,3,5] [sq 4 (k:=.w (.Gg 1)) (vs:=[.nils,.slice true 1 [.int .i64 (j:Nat)]]) (rs:=[some (.arr i g 0 l 1)]) (σ:=σ) (σ':=σ') (fun n=>h2)] (by kernel_rfl) hs hq
 ·exact HT.pk (R:=R15) (fun _=>Cb) hx Tryz.Cq.mixed ky6 (NV (by simp)) [0,3,5] [sq 4 (k:=.w (.Gg 1)) (vs:=[.arr i' g' 0 l' 1,.slice true 1 [.int .i64 (j:Nat)]]) (rs:=[some (.arr i g 0 l 1)]) (σ:=σ) (σ':=σ') (fun n=>h2)] (by kernel_rfl) hs hq
theorem w7(hj:j<1024)(hx:Dt cx Iq)(hs:Sub (frL (vA a b c d e) out j) ff0)(hq:∀ff1,Sub (frL (vA a b c d e) out (j+1)) ff1→Q .normal ff1 σ):HT Tryz.prog cx 25 n y7 ff0 σ Q:=
 HT.pk (R:=R15) (fun _=>Cb) hx Tryz.Cq.mixed ky7 (NV (by simp)) [0,3,5] [sq 0 (k:=.p (.bin .add 0)) (vs:=[.int .i64 (j:Nat),.int .i64 1]) (rs:=[some (.int .i64 ((j+1:Nat):Int))]) (σ:=σ) (σ':=σ) (fun n=>by
  have hw:IntKind.i64.wrap (((j:Nat):Int)+1)=((j+1:Nat):Int):=by rw[IntKind.wrap_i64];omega
  show some ([some (PV.int .i64 (IntKind.i64.wrap (((j:Nat):Int)+1)))],σ)=_;rw[hw])] (by kernel_rfl) hs hq
end
end
end Go.Abs.Z

namespace Go.Abs.Z
noncomputable section
open Go.Proofs Go.RowKit
set_option linter.unusedVariables false
def IC(p:Nat→Bool)(n:Nat):List Int:=((List.range n).filter p).map Int.ofNat
theorem aA(p:Nat→Bool)(n:Nat):IC p (n+1)=if p n then IC p n++[(n:Int)] else IC p n:=by
 unfold IC;rw[List.range_succ,List.filter_append,Ez];by_cases h:p n<;>simp[h]
theorem iC(p:Nat→Bool)(n:Nat):(IC p n).length≤n:=by
 have:=List.length_filter_le p (List.range n);simpa [IC] using this
theorem LU(σ:Sto)(l:List Int):Ml (FJ σ l).1:=by
 unfold FJ;split
 ·exact .inl rfl
 ·exact .inr ⟨_,_,_,rfl⟩
theorem LQ{σ:Sto}{l:List Int}(h:l≠[]):FJ σ l=(.arr σ.length (l.length - 1) 0 l.length 1,σ++[[.arrv (l.length - 1) 1 (l.map (PV.int .i64))]]):=by
 unfold FJ;split
 ·exact absurd rfl h
 ·rfl
theorem jR{σ:Sto}{l:List Int}{id:Nat}(h:id<σ.length):(FJ σ l).2[id]?=σ[id]?:=by
 by_cases he:l=[]
 ·subst he;rfl
 ·rw[LQ he];exact Ae h
theorem jS{σ:Sto}{l:List Int}(x:Int)(hl:l.length<4294967295):Cu pur GI (.Gg 1) [(FJ σ l).1,.slice true 1 [.int .i64 x]] (FJ σ l).2=some ([some (FJ σ (l++[x])).1],(FJ σ (l++[x])).2):=by
 have hm:Cr=4294967296:=rfl;rw[LQ (l:=l++[x]) (by simp)]
 by_cases he:l=[]
 ·subst he;have h1:[PV.int .i64 x].length≤Cr∧[PV.int .i64 x].all PV.ones=true∧[PV.int .i64 x].all PV.okc=true:=⟨by rw[hm];show 1≤4294967296;decide,rfl,rfl⟩
  show Cu pur GI (.Gg 1) [.nils,.slice true 1 [.int .i64 x]] σ=_;simp only[Cu,JS,if_true,Gg,Eg,Bool.false_eq_true,if_false,if_pos h1];rfl
 ·rw[LQ he];have hlt:0<l.length:=List.length_pos_iff.2 he;have h1:l.length+[PV.int .i64 x].length≤Cr∧[PV.int .i64 x].all PV.ones=true∧[PV.int .i64 x].all PV.okc=true:=⟨by rw[hm];simp;omega,rfl,rfl⟩
  have h2:JF (σ++[[PV.arrv (l.length - 1) 1 (l.map (PV.int .i64))]]) σ.length (l.length - 1) 0 l.length 1=some (l.map (PV.int .i64)):=by
   simp only[JF,List.getElem?_concat_length,Ej,if_true,and_self]
   rw[if_pos (by simp),Dz,CO (by simp)]
  simp only[Cu,JS,if_true,Gg,h2,Eg,Bool.false_eq_true,if_false,if_pos h1];rw[Nat.sub_add_cancel hlt];simp;rfl
def bv:CQ:=cA 49 Iq
theorem AvI:F6 Tryz.prog pur Iq Tryz.f49=some bv:=by kernel_rfl
theorem AjK:bv.ntmps+bv.extra=25:=by kernel_rfl
theorem AjL:bv.ntmps=25:=by kernel_rfl
theorem AjM:bv.nargs=1:=by kernel_rfl
theorem AqO:bv.results=[(2,none)]:=by kernel_rfl
theorem Yu:∀{l:List PV} {w:W},ZE l=some w→l=w.map fun X=>PV.int .u64 (X.toNat:Int)
 |[],w,h=>by cases h;rfl
 |v::l,w,h=>by
  simp only[ZE] at h
  split at h
  ·rename_i n r hr
   split at h
   ·rename_i hn;cases h;rw[AL,←Yu hr];congr 2;rw[BitVec.toNat_ofInt];omega
   ·cases h
  ·cases h
theorem pK{σ:Sto}{v:PV}{w:W}(h:wOf σ v=some w):∃id g i,v=.aptr id g 16 i 0∧id<σ.length∧w.length=16∧∀(σ':Sto),σ'[id]?=σ[id]?→∀q,q<16→Cs (.ld 1 false) [.aptr id g 16 i (0+q * 1)] σ'=some [some (.int .u64 ((w.getD q 0#64).toNat:Int))]:=by
 unfold wOf at h
 split at h
 case h_2=>cases h
 rename_i id g size i off
 split at h
 case h_2=>cases h
 rename_i cs hcs
 split at h
 case h_2=>cases h
 rename_i es hes
 split at h
 case h_2=>cases h
 rename_i l hl
 split at h
 case h_2=>cases h
 rename_i w' hw
 split at h
 case isFalse=>cases h
 rename_i hh;obtain⟨rfl,rfl,hlen⟩:=hh;cases h;refine⟨id,g,i,rfl,(Ab.1 hcs).1,hlen,fun σ' hσ q hq=>?_⟩
 have e:=Yu hw;subst e
 have hg:(w.map fun X=>PV.int .u64 (X.toNat:Int))[q]?=some (.int .u64 ((w.getD q 0#64).toNat:Int)):=by
  rw[Af,Ad (by omega),Aj,Ad (by omega)];rfl
 have hc:(PV.agg (w.map fun X=>PV.int .u64 (X.toNat:Int))).cells=w.map fun X=>PV.int .u64 (X.toNat:Int):=rfl
 simp only[Cs,hσ,hcs,hes,hl,Xh,sub,hc,Bb,DZ,hg];rfl
theorem Zc:Gp Tryz.prog 49 Qu:=by
 intro call hS args σ r σ' hown h;unfold Qu at h
 split at h
 case h_2=>cases h
 rename_i v;obtain⟨w,hw,hr⟩:=Ac.1 h;obtain⟨id,g,i,rfl,hid,hlen,hld⟩:=pK hw;have hlst:lst (bit w)=IC (bit w) 1024:=rfl;rw[hlst] at hr;obtain⟨L,hL⟩:∃L,IC (bit w) 1024=L:=⟨_,rfl⟩;rw[hL] at hr;have hr1:(FJ σ L).1=r:=congrArg Prod.fst hr;have hr2:(FJ σ L).2=σ':=congrArg Prod.snd hr;refine HT.fn (fn:=Tryz.f49) (c:=RD) Tryz.func49 (by kernel_rfl) (by kernel_rfl) AvI hown ⟨by rw[AjM];rfl,by rw[AjL];show 1≤25;decide⟩ fun cx n hx=>?_
 rw[AjK,jK];refine HT.seq (R:=fun e ff1 σ1=>e=.normal∧σ1=σ∧Sub [(0,some (vA id g 16 i 0))] ff1) (w0 hx (Sub.refl _) fun ff1 h1=>⟨rfl,rfl,h1⟩) ?_ (fun e _ _ he h=>absurd h.1 he)
 rintro ff1 σa ⟨_,rfl,h1⟩
 refine HT.seq (R:=fun e ff1 σ2=>e=.normal∧σ2=σa∧Sub [(0,some (vA id g 16 i 0)),(3,some .nils)] ff1) (w1 hx h1 fun ff1 h1=>⟨rfl,rfl,h1⟩) ?_ (fun e _ _ he h=>absurd h.1 he)
 rintro ff2 σb ⟨_,rfl,h2⟩
 refine HT.seq (R:=fun e ff1 σ1=>e=.normal∧σ1=(FJ σb L).2∧Sub [(3,some (FJ σb L).1)] ff1) ?_ ?_ (fun e _ _ he h=>absurd h.1 he)
 ·refine HT.seq (R:=fun e ff1 σ2=>e=.normal∧σ2=σb∧Sub (frL (vA id g 16 i 0) .nils 0) ff1) (w2 hx h2 fun ff1 h1=>⟨rfl,rfl,h1⟩) ?_ (fun e _ _ he h=>absurd h.1 he)
  rintro ff3 σc ⟨_,rfl,h3⟩
  refine HT.block (R:=fun e ff1 σ1=>e=.exit 0∧σ1=(FJ σc L).2∧Sub [(3,some (FJ σc L).1)] ff1) ?_ (fun _ _ h=>⟨rfl,h.2⟩) (fun _ _ _ he h=>absurd h.1 he)
  let J:Nat→FF→Sto→Prop:=fun m ff σ1=>∃j,m=1024 - j∧j≤1024∧σ1=(FJ σc (IC (bit w) j)).2∧Sub (frL (vA id g 16 i 0) (FJ σc (IC (bit w) j)).1 j) ff
  refine HT.loop J (m:=1024) ⟨0,rfl,by decide,rfl,h3⟩ ?_
  rintro m ff σ1 ⟨j,rfl,hj,rfl,h4⟩
  rw[tN];refine HT.seq (R:=fun e ff1 σ2=>e=.normal∧σ2=(FJ σc (IC (bit w) j)).2∧Sub ((6,some (.bool (decide (((j:Nat):Int) < 1024))))::frL (vA id g 16 i 0) (FJ σc (IC (bit w) j)).1 j) ff1) (w3 hx h4 fun ff1 h=>⟨rfl,rfl,h⟩) ?_ (fun e _ _ he h=>absurd h.1 he)
  rintro ff5 _ ⟨_,rfl,h5⟩
  by_cases hj2:j<1024
  ·have hd:decide (((j:Nat):Int) < 1024)=true:=decide_eq_true (by omega)
   rw[hd] at h5;refine HT.seq (R:=fun e ff1 σ2=>e=.normal∧σ2=(FJ σc (IC (bit w) j)).2∧Sub (frL (vA id g 16 i 0) (FJ σc (IC (bit w) j)).1 j) ff1) (wK (p:=true) hx h5 fun ff1 h=>⟨rfl,rfl,h⟩) ?_ (fun e _ _ he h=>absurd h.1 he)
   rintro ff6 _ ⟨_,rfl,h6⟩
   refine HT.seq (R:=fun e ff1 σ2=>e=.normal∧σ2=(FJ σc (IC (bit w) (j+1))).2∧Sub (frL (vA id g 16 i 0) (FJ σc (IC (bit w) (j+1))).1 j) ff1) ?_ ?_ (fun e _ _ he h=>absurd h.1 he)
   ·refine HT.block (R:=fun e ff1 σ2=>e=.normal∧σ2=(FJ σc (IC (bit w) (j+1))).2∧Sub (frL (vA id g 16 i 0) (FJ σc (IC (bit w) (j+1))).1 j) ff1) ?_ (fun _ _ h=>by cases h.1) (fun _ _ _ _ h=>h)
    refine HT.seq (R:=fun e ff1 σ2=>e=.normal∧σ2=(FJ σc (IC (bit w) j)).2∧Sub ((4,some (.int .i64 (j:Nat)))::frL (vA id g 16 i 0) (FJ σc (IC (bit w) j)).1 j) ff1) (w4 hx h6 fun ff1 h=>⟨rfl,rfl,h⟩) ?_ (fun e _ _ he h=>absurd h.1 he)
    rintro ff7 _ ⟨_,rfl,h7⟩
    refine HT.seq (R:=fun e ff1 σ2=>e=.normal∧σ2=(FJ σc (IC (bit w) j)).2∧Sub ((18,some (.bool (bit w j)))::(4,some (.int .i64 (j:Nat)))::frL (vA id g 16 i 0) (FJ σc (IC (bit w) j)).1 j) ff1) (w5 hj2 hx (hld _ (jR hid) (j / 64) (by omega)) h7 fun ff1 h=>⟨rfl,rfl,h⟩) ?_ (fun e _ _ he h=>absurd h.1 he)
    rintro ff8 _ ⟨_,rfl,h8⟩
    rw[aA];cases hb:bit w j with
    |false=>
     rw[hb] at h8;exact w6F hx h8 fun ff1 h=>⟨rfl,rfl,h⟩
    |true=>
     rw[hb] at h8;have hl:=iC (bit w) j;have happ:=jS (σ:=σc) (l:=IC (bit w) j) (j:Int) (by omega)
     have hne:IC (bit w) j++[(j:Int)]≠[]:=by simp
     simp only[if_true];rw[LQ hne] at happ ⊢;exact w6T (LU _ _) hx happ h8 fun ff1 h=>⟨rfl,rfl,h⟩
   ·rintro ff7 _ ⟨_,rfl,h7⟩
    exact w7 hj2 hx h7 fun ff1 h=>.inl ⟨rfl,1024 - (j+1),by omega,j+1,rfl,by omega,rfl,h⟩
  ·have hj3:j=1024:=by omega
   subst hj3;have hd:decide (((1024:Nat):Int) < 1024)=false:=by decide
   rw[hd] at h5;rw[hL] at h5 ⊢;refine HT.seq (R:=fun e ff1 σ2=>e=.exit 0∧σ2=(FJ σc L).2∧Sub (frL (vA id g 16 i 0) (FJ σc L).1 1024) ff1) (wK (p:=false) hx h5 fun ff1 h=>⟨rfl,rfl,h⟩) (fun _ _ h=>by cases h.1) ?_
   rintro e ff6 _ _ ⟨rfl,rfl,h6⟩
   exact .inr ⟨by simp,rfl,rfl,(PP [3] (by kernel_rfl)).trans h6⟩
 rintro ff3 _ ⟨_,rfl,h3⟩
 refine wZ (LU _ _) hx h3 fun ff4 h4=>⟨.inr rfl,[r],?_,rfl,by rw[hr2];exact Dead.refl _⟩
 rw[AqO];have:=h4 2 _ rfl;rw[hr1] at this;simp only[Gm,this];have hf:=LU σb L;rw[hr1] at hf;rcases hf with rfl | ⟨_,_,_,rfl⟩<;>rfl
def fD:List (FuncId×HV):=(49,Qu)::VD
theorem VB:∀x∈fD,Gp Tryz.prog x.1 x.2:=by
 intro x hx;rcases Ay.1 hx with rfl | hx
 ·exact Zc
 ·exact VC x hx
end
end Go.Abs.Z
