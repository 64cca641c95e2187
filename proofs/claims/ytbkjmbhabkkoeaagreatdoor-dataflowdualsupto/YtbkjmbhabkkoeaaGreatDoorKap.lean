/- A part of the proof: PO PQ A47 PR PT PU PX P0 D1 D2 PB PE PF PC. -/
import Derived.Test.YtbkjmbhabkkoeaaGreatDoorKao
import Derived.Test.YtbkjmbhabkkoeaaGreatDoorKan

set_option linter.unusedVariables false
set_option linter.unusedSimpArgs false
namespace Go.Abs.Z
open Go.Proofs Go.RowKit Go.Sort
set_option linter.unusedVariables false
section
variable{cx:Cx}{n:Nat}{ff0:FF}{Q:Bt→FF→Sto→Prop}
theorem Gy.push{σ σ1:Sto}{out:PV}{l:List Int}{k ia:Nat}{cs:List PV}(h:Gy σ σ1 out l k ia):Gy σ (σ1++[cs]) out l (k+1) ia:=by
 have hl:=h.len;refine⟨by simp;omega,fun id hid=>by rw[Ae (by omega)];exact h.old id hid,?_⟩
 rcases h.out with h1 | ⟨h1,h2,h3,h4⟩
 ·exact .inl h1
 ·exact .inr ⟨h1,h2,by rw[Ae (Ab.1 h3).1];exact h3,h4⟩
theorem Un{σ:Sto}{f:Nat}{sc:PV}{rest:List (List Int)}(h:chain f σ sc=some rest):(sc=.nilp∧rest=[]) ∨
  ∃id p m d z ks zs r g,sc=.ref id 0∧σ[id]?=some [p,.mref m]∧mapOf σ[m]?=some (d,z,ks,zs.map (PV.int .i64))∧ks.length=zs.length∧chain g σ p=some r∧rest=zs::r:=by
 cases f with
 |zero=>cases h
 |succ f=>
  simp only[chain] at h
  split at h
  ·cases h;exact .inl ⟨rfl,rfl⟩
  ·split at h
   ·rename_i p m hid
    split at h
    ·rename_i d z ks vs hm
     split at h
     ·rename_i zs r hz hr
      split at h
      ·rename_i hl;cases h;exact .inr ⟨_,p,m,d,z,ks,zs,r,f,rfl,hid,by rw[hm,Mt hz],hl.symm,hr,rfl⟩
      ·cases h
     ·cases h
    ·cases h
   ·cases h
  ·cases h
theorem SC{σ:Sto}{f:Nat}{sc:PV}{rest:List (List Int)}(h:chain f σ sc=some rest):sc=.nilp∨∃j o,sc=.ref j o:=by
 rcases Un h with⟨h,_⟩ | ⟨id,_,_,_,_,_,_,_,_,h,_⟩
 ·exact .inl h
 ·exact .inr ⟨_,_,h⟩
theorem outer{σ:Sto}{zss:List (List Int)}{f:Nat}{p:PV}(hx:Dp cx Fw)(hch:chain f σ p=some zss)(hmax:zss.flatten.length≤Cb)(hs:Sub [(4,some p),(3,some .nils)] ff0)
  (hq:∀ff1 σ1 out l,Sub [(3,some out)] ff1→Gy σ σ1 out l zss.length (σ.length+IE zss)→l.Perm zss.flatten→Q (.exit 0) ff1 σ1):HT Tryz.prog cx 30 n (.loop cL0) ff0 σ Q:=by
 let J:Nat→FF→Sto→Prop:=fun mm ff σ1=>∃done rest sc f l out,zss=done++rest∧chain f σ sc=some rest∧mm=rest.length∧Sub [(4,some sc),(3,some out)] ff∧Gy σ σ1 out l done.length (σ.length+IE zss)∧l.Perm done.flatten
 refine HT.loop J (m:=zss.length) ⟨[],zss,p,f,[],.nils,rfl,hch,rfl,hs,⟨by simp,fun _ _=>rfl,.inl ⟨rfl,rfl⟩⟩,.refl _⟩ ?_
 rintro mm ff σ1 ⟨done,rest,sc,f,l,out,hz,hc,rfl,hs,hst,hp⟩
 rw[vK];rcases Un hc with⟨rfl,rfl⟩ | ⟨id,p,m,d,z,ks,zs,r,g,rfl,h1,h2,h3,h4,rfl⟩
 ·refine HT.seq (R:=fun e ff1 σ2=>e=.exit 0∧σ2=σ1∧Sub [(3,some out)] ff1) (tH0 hx hs fun ff1 h=>⟨rfl,rfl,h⟩) (fun _ _ h=>by cases h.1) ?_
  rintro e ff1 σ2 _ ⟨rfl,rfl,h⟩
  rw[BD] at hz;subst hz;exact .inr ⟨by simp,hq _ _ _ _ h hst hp⟩
 ·refine HT.seq (R:=fun e ff1 σ2=>e=.normal∧σ2=σ1∧Sub [(4,some (.ref id 0)),(3,some out)] ff1) (tH1 hx hs fun ff1 h=>⟨rfl,rfl,h⟩) ?_ (fun e _ _ he h=>absurd h.1 he)
  rintro ff1 σ2 ⟨_,hσ,hs1⟩
  have hσ:=hσ.symm;subst hσ;have hidl:id<σ.length:=(Ab.1 h1).1
  have hml:m<σ.length:=by
   unfold mapOf at h2
   split at h2
   ·rename_i hh;exact(Ab.1 hh).1
   ·cases h2
  have h1':=hst.old id hidl;rw[h1] at h1';have h2':=hst.old m hml;have hlen:=hst.len;have hfl:zss.flatten.length=done.flatten.length+zs.length+r.flatten.length:=by rw[hz];simp;omega
  refine HT.seq (R:=fun e ff2 σ2=>e=.normal∧∃l2 out2,Sub [(4,some (.ref id 0)),(3,some out2)] ff2∧Gy σ σ2 out2 l2 (done.length+1) (σ.length+IE zss)∧l2.Perm (l++zs)) ?_ ?_ (fun e _ _ he h=>absurd h.1 he)
  ·refine HT.block (R:=fun e ff2 σ2=>e=.normal∧∃l2 out2,Sub [(4,some (.ref id 0)),(3,some out2)] ff2∧Gy σ σ2 out2 l2 (done.length+1) (σ.length+IE zss)∧l2.Perm (l++zs)) ?_ (fun _ _ h=>by cases h.1) (fun _ _ _ _ h=>h)
   refine HT.seq (R:=fun e ff2 σ2=>e=.normal∧σ2=σ1++[[.itr m ks.length []]]∧Sub [(4,some (.ref id 0)),(3,some out),(18,some (.ref σ1.length 0))] ff2) (t5 hx h1' (by rw[h2'];exact h2) hs1 fun ff2 h=>⟨rfl,rfl,h⟩) ?_ (fun e _ _ he h=>absurd h.1 he)
   rintro ff2 _ ⟨_,rfl,hs2⟩
   refine HT.block (R:=fun e ff3 σ3=>e=.exit 2∧∃l2 out2,Sub [(4,some (.ref id 0)),(3,some out2)] ff3∧Gy σ σ3 out2 l2 (done.length+1) (σ.length+IE zss)∧l2.Perm (l++zs)) ?_ (fun _ _ h=>⟨rfl,h.2⟩) (fun _ _ _ he h=>absurd h.1 he)
   refine inner hx hml h2 h3 (it:=σ1.length) (by simp[FC,h3]) (by omega) (hst.push (cs:=[.itr m ks.length []])) ?_ ?_ ?_ hs2 ?_
   ·intro e hzne;subst e;have hd:done.flatten=[]:=Bq.1 (by rw[←hp.length_eq];rfl)
    rw[hz,aC done zs r hd hzne];simp at hlen ⊢;omega
   ·intro hl;rcases hst.out with⟨h,_⟩ | ⟨_,_,h,_⟩
    ·exact absurd h hl
    ·have:=(Ab.1 h).1;omega
   ·rw[hp.length_eq];omega
   ·rintro ff3 σ3 out3 l3 h hst3 hp3
    refine⟨rfl,l3,out3,?_,hst3,hp3⟩
    intro t y hy;refine h t y ?_
    rw[FV] at hy ⊢;cases hb:Nat.beq 4 t with
    |true=>simp only[hb] at hy ⊢;exact hy
    |false=>
     simp only[hb] at hy ⊢;have hy:Dm [(3,some out3)] t=some y:=hy;show Dm [(3,some out3),(18,some (PV.ref σ1.length 0))] t=some y;rw[FV] at hy ⊢;cases hc:Nat.beq 3 t with
     |true=>simp only[hc] at hy ⊢;exact hy
     |false=>simp only[hc] at hy;cases hy
  ·rintro ff2 σ2 ⟨_,l2,out2,hs2,hst2,hp2⟩
   refine t4 hx (p:=p) (y:=.mref m) (by rw[hst2.old id hidl];exact h1) (SC h4) hs2 fun ff3 h=>.inl ⟨rfl,r.length,by simp,done++[zs],r,p,g,l2,out2,by rw[hz];simp,h4,rfl,h,by simpa using hst2,?_⟩
   rw[List.flatten_append];simpa using hp2.trans (hp.append_right zs)
end
end Go.Abs.Z

namespace Go.Abs.Z
open Go.Proofs Go.RowKit Go.Sort
set_option linter.unusedVariables false
section
variable{cx:Cx}{n:Nat}{ff0:FF}{σ:Sto}{Q:Bt→FF→Sto→Prop}
theorem tA{p:PV}(hx:Dp cx Fw)(hp:p=.nilp∨∃j o,p=.ref j o)(hs:Sub [(0,some p)] ff0)(hq:∀ff1,Sub [(0,some p)] ff1→Q .normal ff1 σ):HT Tryz.prog cx 30 n cA0 ff0 σ Q:=by
 rcases hp with rfl | ⟨j,o,rfl⟩
 all_goals exact HT.pk (R:=R15) (fun _=>Ca) hx Tryz.Cu.mixed kA0 (Jw (by simp)) [0] [] (by kernel_rfl) hs hq
theorem tA'{p:PV}(hx:Dp cx Fw)(hp:p=.nilp∨∃j o,p=.ref j o)(hs:Sub [(0,some p)] ff0)(hq:∀ff1,Sub [(0,some p),(3,some .nils)] ff1→Q .normal ff1 σ):HT Tryz.prog cx 30 n cA1 ff0 σ Q:=by
 rcases hp with rfl | ⟨j,o,rfl⟩
 all_goals exact HT.pk (R:=R15) (fun _=>Ca) hx Tryz.Cu.mixed kA1 (Jw (by simp)) [0,3] [] (by kernel_rfl) hs hq
theorem AzR{p:PV}(hx:Dp cx Fw)(hp:p=.nilp∨∃j o,p=.ref j o)(hs:Sub [(0,some p),(3,some .nils)] ff0)(hq:∀ff1,Sub [(4,some p),(3,some .nils)] ff1→Q .normal ff1 σ):HT Tryz.prog cx 30 n cA2 ff0 σ Q:=by
 rcases hp with rfl | ⟨j,o,rfl⟩
 all_goals exact HT.pk (R:=R15) (fun _=>Ca) hx Tryz.Cu.mixed kA2 (Jw (by simp)) [4,3] [] (by kernel_rfl) hs hq
end
theorem fH{l k:List Int}(h:l.Perm k):Jq l=Jq k:=ru ((GN l).trans (h.trans (GN k).symm)) (Mg l) (Mg k)
theorem XA:∀l:List Int,OP (l.map (PV.int .i64))=some l
 |[]=>rfl
 |x::l=>by simp only[AR,OP,XA l]
theorem fM{σ1:Sto}{ia:Nat}{l:List Int}(hl:l.length<9000000000)(hg:l.length - 1≤l.length)(h:σ1[ia]?=some [.arrv (l.length - 1) 1 (l.map (PV.int .i64))]):
  sem pur GQ (.w (.call 15)) [.arr ia (l.length - 1) 0 l.length 1] σ1=some ([some (.tuple [])],σ1.set ia [.arrv (l.length - 1) 1 ((Jq l).map (PV.int .i64))]):=by
 have h1:KY (fun _ _ _=>none) [.arr ia (l.length - 1) 0 l.length 1] σ1=some (.tuple [],σ1.set ia [.arrv (l.length - 1) 1 ((Jq l).map (PV.int .i64))]):=by
  have h2:TD (l.map (PV.int .i64)) 0 l.length=some ((Jq l).map (PV.int .i64)):=by
   have e:List.take l.length (List.drop 0 (l.map (PV.int .i64)))=l.map (PV.int .i64):=by
    rw[CS,BC (by simp)]
   simp only[TD,e,XA];rw[if_pos ⟨trivial,hl⟩];simp
  simp only[KY,if_true,h,Dq,and_self,h2]
 have hp:pur 15=false:=by kernel_rfl
 have h3:GQ 15 ([PV.arr ia (l.length - 1) 0 l.length 1].map PV.Ag) σ1=some (.tuple [],σ1.set ia [.arrv (l.length - 1) 1 ((Jq l).map (PV.int .i64))]):=h1;simp only[sem,Cq,hp,h3,Bool.false_eq_true,if_false];rfl
theorem fK(σ1:Sto):sem pur GQ (.w (.call 15)) [.nils] σ1=some ([some (.tuple [])],σ1):=by
 have hp:pur 15=false:=by kernel_rfl
 have h3:GQ 15 ([PV.nils].map PV.Ag) σ1=some (.tuple [],σ1):=rfl;simp only[sem,Cq,hp,h3,Bool.false_eq_true,if_false];rfl
theorem VB(k i:Nat)(cs:List PV)(h:(IM k)[i]?=some cs):cs=[.dead]:=by
 unfold IM at h;rw[Cs] at h
 split at h
 ·cases h;rfl
 ·cases h
theorem Vv:∀zss:List (List Int),IE zss≤zss.length
 |[]=>Be _
 |z::r=>by
  have:=Vv r;unfold IE
  split<;>simp<;>omega
noncomputable def Ux:Cy:=cA 219 Fw
theorem Az6:Gf Tryz.prog pur Fw Tryz.f219=some Ux:=by kernel_rfl
theorem xx:Ux.ntmps+Ux.extra=30:=by kernel_rfl
theorem xz:Ux.ntmps=30:=by kernel_rfl
theorem xB:Ux.nargs=1:=by kernel_rfl
theorem qV:Ux.results=[(2,none)]:=by kernel_rfl
theorem mJ:FQ Tryz.prog 219 iZ:=by
 intro call hS args σ r σ' hown h;unfold iZ at h
 split at h
 case h_2=>cases h
 rename_i p
 split at h
 case h_2=>cases h
 rename_i zss hch;have hpf:=SC hch;refine HT.fn (fn:=Tryz.f219) (c:=body) Tryz.func219 (by kernel_rfl) (by kernel_rfl) Az6 hown ⟨by rw[xB];rfl,by rw[xz];show 1≤30;decide⟩ fun cx n hx=>?_
 rw[xx,qy]
 have hmax:zss.flatten.length≤Cb∧zss.flatten.length<9000000000:=by
  split at h
  ·rename_i he;rw[he];exact⟨Fs _,by decide⟩
  ·split at h
   ·rename_i hh;exact hh
   ·cases h
 refine HT.seq (R:=fun e ff1 σ1=>e=.normal∧σ1=σ∧Sub [(0,some p)] ff1) (tA hx hpf (Sub.refl _) fun ff1 h1=>⟨rfl,rfl,h1⟩) ?_ (fun e _ _ he h=>absurd h.1 he)
 rintro ff1 σa ⟨_,rfl,h1⟩
 refine HT.seq (R:=fun e ff1 σ2=>e=.normal∧σ2=σa∧Sub [(0,some p),(3,some .nils)] ff1) (tA' hx hpf h1 fun ff1 h1=>⟨rfl,rfl,h1⟩) ?_ (fun e _ _ he h=>absurd h.1 he)
 rintro ff2 σb ⟨_,rfl,h2⟩
 refine HT.seq (R:=fun e ff1 σ1=>e=.normal∧∃out l,Sub [(3,some out)] ff1∧Gy σb σ1 out l zss.length (σb.length+IE zss)∧l.Perm zss.flatten) ?_ ?_ (fun e _ _ he h=>absurd h.1 he)
 ·refine HT.seq (R:=fun e ff1 σ2=>e=.normal∧σ2=σb∧Sub [(4,some p),(3,some .nils)] ff1) (AzR hx hpf h2 fun ff1 h1=>⟨rfl,rfl,h1⟩) ?_ (fun e _ _ he h=>absurd h.1 he)
  rintro ff3 σc ⟨_,rfl,h3⟩
  refine HT.block (R:=fun e ff1 σ1=>e=.exit 0∧∃out l,Sub [(3,some out)] ff1∧Gy σc σ1 out l zss.length (σc.length+IE zss)∧l.Perm zss.flatten) ?_ (fun _ _ h=>⟨rfl,h.2⟩) (fun _ _ _ he h=>absurd h.1 he)
  exact outer hx hch hmax.1 h3 fun ff1 σ1 out l ha hb hc=>⟨rfl,out,l,ha,hb,hc⟩
 rintro ff3 σ1 ⟨_,out,l,h3,hst,hp⟩
 have hlen:=hst.len;rcases hst.out with⟨hl,ho⟩ | ⟨hl,ho,hia,hge⟩
 ·subst ho;subst hl;have hf:zss.flatten=[]:=Bq.1 (by rw[←hp.length_eq];rfl)
  rw[hf] at h;cases h;refine tF hx (.inl rfl) (fK σ1) h3 fun ff4 h4=>⟨.inr rfl,[.nils],?_,rfl,by simp[IM,hlen],fun id cs hc=>?_⟩
  ·rw[qV];have:=h4 2 _ rfl;simp only[Gt,this];rfl
  ·by_cases hi:id<σb.length
   ·rw[Ae hi] at hc;rw[hst.old id hi];exact .inl hc
   ·rw[Al (by omega)] at hc
    exact .inr (VB _ _ _ hc)
 ·subst ho;have hne:zss.flatten≠[]:=fun e=>hl (Bq.1 (by rw[hp.length_eq,e];rfl))
  have hll:=hp.length_eq
  split at h
  ·rename_i he;exact absurd he hne
  rename_i hz _;rw[if_pos hmax] at h;cases h;refine tF hx (.inr ⟨_,_,_,rfl⟩) (fM (by omega) (by omega) hia) h3 fun ff4 h4=>⟨.inr rfl,[.arr (σb.length+IE zss) (zss.flatten.length - 1) 0 zss.flatten.length 1],?_,rfl,?_,fun id cs hc=>?_⟩
  ·rw[qV];have:=h4 2 _ rfl;rw[hll] at this;simp only[Gt,this];rfl
  ·have:=Vv zss;simp[IM,hlen,hl];omega
  ·have hfl:=Vv zss;have hial:σb.length+IE zss<σ1.length:=(Ab.1 hia).1;by_cases hi:id<σb.length
   ·rw[BP,BP,Ae hi] at hc;rw[Ap (by omega),hst.old id hi];exact .inl hc
   ·rw[BP,BP,Al (by omega)] at hc
    by_cases hj:id=σb.length+IE zss
    ·subst hj;rw[Nat.add_sub_cancel_left,Al (by simp[IM])] at hc
     have e0:σb.length+IE zss - σb.length - (IM (IE zss)).length=0:=by simp[IM]
     have e1:IE zss - (IM (IE zss)).length=0:=by simp[IM]
     rw[e1] at hc;have hc:some [PV.arrv (zss.flatten.length - 1) 1 ((Jq zss.flatten).map (PV.int .i64))]=some cs:=hc;rw[AP hial,←hc,fH hp,hll];exact .inl rfl
    ·refine .inr ?_
     by_cases hk:id - σb.length<IE zss
     ·rw[Ae (by simpa [IM] using hk)] at hc
      exact VB _ _ _ hc
     ·rw[Al (by simp[IM];omega)] at hc
      have e:(IM (IE zss)).length=IE zss:=by simp[IM]
      rw[e,Al (by simp;omega)] at hc
      exact VB _ _ _ hc
end Go.Abs.Z

namespace Go.Abs
open Go.RowKit
section
variable{P:Program}{pur:FuncId→Bool}{call:Caller}{fi:FI}{cx:Cx}{N n m:Nat}{ff ff':FF}{σ σ':Sto}{Q:Bt→FF→Sto→Prop}{a:Act}{w:World}
theorem dZ.dead(h:dZ cx N a w ff σ)(hd:Dead σ σ'):dZ cx N a w ff σ':=by
 obtain⟨A,hr,G,hi⟩:=h;refine⟨A,hr,G,hi.defers,hi.size,hi.room,hi.base,hi.slot,fun id cs hc=>?_,by rw[←hd.1];exact hi.len,fun i g x hx=>by rw[←hd.1];exact hi.abl i g x hx⟩
 rcases hd.2 id cs hc with h1 | rfl
 ·exact hi.obj id cs h1
 ·have hlt:=(Ab.1 hc).1;obtain⟨b,hb,_⟩:=hi.obj id _ (Ad (by rw[hd.1];exact hlt))
  exact⟨b,hb,.inr (.inr (.inl rfl))⟩
theorem HT.dead{c:Code}(hd:Dead σ σ')(h:HT P cx N n c ff σ' Q):HT P cx N n c ff σ Q:=fun a w hs K hK=>h a w (hs.dead hd) K hK
theorem HT.sub{c:Code}(hs:∀t v,Dm ff' t=some v→Dm ff t=some v)(h:HT P cx N n c ff' σ Q):HT P cx N n c ff σ Q:=by
 rintro a w ⟨A,hr,hi⟩ K hK
 exact h a w ⟨A,⟨hr.len,fun t v hv=>hr.get t v (hs t v hv)⟩,hi⟩ K hK
def Zc:List Code→Code→Code
 |[],r=>r
 |c::cs,r=>.seq c (Zc cs r)
noncomputable def mh(pur:FuncId→Bool)(call:Caller)(m:Nat)(l:List Dc):FF→Sto→Option (FF×Sto):=
 List.rec (motive:=fun _=>FF→Sto→Option (FF×Sto)) (fun ff σ=>some (ff,σ)) (fun c _ ih ff σ=>match EI pur call m c ff σ with | some (.normal,ff1,σ1)=>ih ff1 σ1 | _=>none) l
theorem HT.chain(hS:EW P call)(hx:Dp cx fi)(hmo:P.follows .mixedOrders=true):∀(cs:List Code) (az:List Dc) (rest:Code) (ff:FF) (σ:Sto),cs.map (comp P pur fi)=az.map some→az.all (Ei N)=true→mh pur call m az ff σ=some (ff',σ')→HT P cx N n rest ff' σ' Q→HT P cx N n (Zc cs rest) ff σ Q
 |[],[],rest,ff,σ,_,_,h,hr=>by cases h;exact hr
 |[],_::_,_,_,_,h,_,_,_=>by cases h
 |_::_,[],_,_,_,h,_,_,_=>by cases h
 |c::cs,a::az,rest,ff,σ,h1,h2,h,hr=>by
  simp only[AR,List.cons.injEq,Bi,Ak] at h1 h2;have h:(match EI pur call m a ff σ with | some (.normal,ff1,σ1)=>mh pur call m az ff1 σ1 | _=>none)=some (ff',σ'):=h
  split at h
  ·rename_i ff1 σ1 ha;refine HT.seq (R:=fun e ff2 σ2=>e=.normal∧ff2=ff1∧σ2=σ1) (HT.code hS hx hmo h1.1 h2.1 ha ⟨rfl,rfl,rfl⟩) ?_ (fun e _ _ he h=>absurd h.1 he)
   rintro _ _ ⟨_,rfl,rfl⟩
   exact HT.chain hS hx hmo cs az rest _ _ h1.2 h2.2 h hr
  ·cases h
end
end Go.Abs

namespace Go.Abs.Z
noncomputable section
open Go.Proofs Go.RowKit Go.Sort
set_option linter.unusedVariables false
def aJ:Code:=Tryz.f123.body.getD .skip
def rP:Nat→Code→List Code
 |0,_=>[]
 |n+1,c=>c.s1::rP n c.s2
def rT:Nat→Code→Code
 |0,c=>c
 |n+1,c=>rT n c.s2
def csR:List Code:=rP 8 aJ
def iH:Code:=rT 8 aJ
def c19:=iH.s1.s1
def cL6:=iH.s1.s2.b1.l1
def cZ:=iH.s2
def c20:=cL6.s1
def cK6:=cL6.s2.s1
def c21:=cL6.s2.s2.b1.s1
def c22:=cL6.s2.s2.b1.s2.s1
def cL8:=cL6.s2.s2.b1.s2.s2.b1.l1
def c23:=cL8.s1
def cK8:=cL8.s2.s1
def c24:=cL8.s2.s2.s1.b1.s1
def c25:=cL8.s2.s2.s1.b1.s2
def c26:=cL8.s2.s2.s2
theorem l6:aJ=Zc csR (.seq (.seq c19 (.block 6 (.loop cL6))) cZ):=by kernel_rfl
theorem vI:cL6=.seq c20 (.seq cK6 (.block 7 (.seq c21 (.seq c22 (.block 8 (.loop cL8)))))):=by kernel_rfl
theorem l5:cL8=.seq c23 (.seq cK8 (.seq (.block 9 (.seq c24 c25)) c26)):=by kernel_rfl
def acV(c:Code):Dc:=(comp Tryz.prog pur E5 c).getD .skip
def asR:List Dc:=csR.map acV
theorem kR:csR.map (comp Tryz.prog pur E5)=asR.map some:=by kernel_rfl
theorem okR:asR.all (Ei 105)=true:=by kernel_rfl
theorem k19:comp Tryz.prog pur E5 c19=some (acV c19):=by kernel_rfl
theorem kZ:comp Tryz.prog pur E5 cZ=some (acV cZ):=by kernel_rfl
theorem kK6:comp Tryz.prog pur E5 cK6=some (acV cK6):=by kernel_rfl
theorem k21:comp Tryz.prog pur E5 c21=some (acV c21):=by kernel_rfl
theorem k22:comp Tryz.prog pur E5 c22=some (acV c22):=by kernel_rfl
theorem k23:comp Tryz.prog pur E5 c23=some (acV c23):=by kernel_rfl
theorem kK8:comp Tryz.prog pur E5 cK8=some (acV cK8):=by kernel_rfl
theorem k24:comp Tryz.prog pur E5 c24=some (acV c24):=by kernel_rfl
theorem k25:comp Tryz.prog pur E5 c25=some (acV c25):=by kernel_rfl
theorem k26:comp Tryz.prog pur E5 c26=some (acV c26):=by kernel_rfl
theorem okV:([c19,cZ,cK6,c21,c22,c23,cK8,c24,c25,c26].all fun c=>Ei 105 (acV c))=true:=by kernel_rfl
theorem NH{c:Code}(h:c∈[c19,cZ,cK6,c21,c22,c23,cK8,c24,c25,c26]):Ei 105 (acV c)=true:=Ao.1 okV c h
def WU:Array Oper:=match c20 with | .region _ ops _=>ops | _=>#[]
theorem vL:c20=.region 20 WU false:=by kernel_rfl
def dH:=(FM Tryz.prog pur E5 20 WU false).getD ([],[])
theorem k20:FM Tryz.prog pur E5 20 WU false=some (dH.1,dH.2):=by kernel_rfl
theorem AvU:dH.1.all (Q6 105)=true:=by kernel_rfl
def o20:Oper:=(WU[0]?).getD default
theorem uy:WU[0]?=some o20:=by kernel_rfl
theorem uw:o20.op=.next (.tmp 80) false:=by kernel_rfl
theorem tT(ff:FF)(σ:Sto):MI pur GQ (dH.1.drop 1) ((81,some (.tuple [.bool false]))::ff) σ=some (.normal,(82,some (.bool false))::(81,some (.tuple [.bool false]))::ff,σ):=by kernel_rfl
theorem tO(k:Kx)(ff:FF)(σ:Sto):MI pur GQ (dH.1.drop 1) ((81,some (.tuple [.bool true,k.pv,.nils]))::ff) σ=some (.normal,(82,some (.bool true))::(81,some (.tuple [.bool true,k.pv,.nils]))::ff,σ):=by
 cases k<;>kernel_rfl
theorem tQ(k:Kx)(id g off len:Nat)(ff:FF)(σ:Sto):MI pur GQ (dH.1.drop 1) ((81,some (.tuple [.bool true,k.pv,.arr id g off len 1]))::ff) σ=some (.normal,(82,some (.bool true))::(81,some (.tuple [.bool true,k.pv,.arr id g off len 1]))::ff,σ):=by
 cases k<;>kernel_rfl
section
variable{cx:Cx}{n:Nat}{ff0:FF}{σ:Sto}{Q:Bt→FF→Sto→Prop}
abbrev fr3(rv:PV)(mi it:Nat):FF:=[(3,some rv),(4,some (.mref mi)),(80,some (.ref it 0))]
theorem uK6{b:Bool}{r mi it:Nat}(hx:Dp cx E5)(hs:Sub ((82,some (.bool b))::fr3 (.ref r 0) mi it) ff0)(hq:∀ff1,Sub (fr3 (.ref r 0) mi it) ff1→Q (if b then .normal else .exit 6) ff1 σ):HT Tryz.prog cx 105 n cK6 ff0 σ Q:=by
 cases b with
 |true=>exact HT.pk (R:=R15) (fun _=>Ca) hx Tryz.Cu.mixed kK6 (NH (by simp)) [3,4,80] [] (by kernel_rfl) hs hq
 |false=>exact HT.pk (R:=R15) (fun _=>Ca) hx Tryz.Cu.mixed kK6 (NH (by simp)) [3,4,80] [] (by kernel_rfl) hs hq
theorem u21{r mi it:Nat}{k v:PV}(hx:Dp cx E5)(hk:(∃a b,k=.int a b)∨(∃l,k=.str l)∨∃l,k=.agg l)(hv:v=.nils∨∃i g o l,v=.arr i g o l 1)(h1:BR .enI [.ref it 0] σ=some [some (.tuple [k,v])])(hs:Sub (fr3 (.ref r 0) mi it) ff0)(hq:∀ff1,Sub ((10,some v)::fr3 (.ref r 0) mi it) ff1→Q .normal ff1 σ):HT Tryz.prog cx 105 n c21 ff0 σ Q:=by
 rcases hv with rfl | ⟨i,g,o,l,rfl⟩
 all_goals
  rcases hk with⟨c,d,rfl⟩ | ⟨c,rfl⟩ | ⟨c,rfl⟩
  all_goals exact HT.pk (R:=R15) (fun _=>Ca) hx Tryz.Cu.mixed k21 (NH (by simp)) [10,3,4,80] [sq 0 (k:=.r .enI) (vs:=[.ref it 0]) (rs:=[some (.tuple [_,_])]) (σ:=σ) (σ':=σ) (fun n=>show(BR .enI [.ref it 0] σ).map _=_ from by rw[h1];rfl)] (by kernel_rfl) hs hq
theorem AzP{r mi it:Nat}(hx:Dp cx E5)(hs:Sub ((10,some .nils)::fr3 (.ref r 0) mi it) ff0)(hq:∀ff1,Sub ((87,some (.int .i64 0))::(86,some (.int .i64 0))::(85,some .nils)::(10,some .nils)::fr3 (.ref r 0) mi it) ff1→Q .normal ff1 σ):HT Tryz.prog cx 105 n c22 ff0 σ Q:=
 HT.pk (R:=R15) (fun _=>Ca) hx Tryz.Cu.mixed k22 (NH (by simp)) [87,86,85,10,3,4,80] [] (by kernel_rfl) hs hq
theorem u22{r mi it i g o:Nat}{l:Nat}(hx:Dp cx E5)(hs:Sub ((10,some (.arr i g o l 1))::fr3 (.ref r 0) mi it) ff0)(hq:∀ff1,Sub ((87,some (.int .i64 0))::(86,some (.int .i64 (l:Int)))::(85,some (.arr i g o l 1))::(10,some (.arr i g o l 1))::fr3 (.ref r 0) mi it) ff1→Q .normal ff1 σ):HT Tryz.prog cx 105 n c22 ff0 σ Q:=
 HT.pk (R:=R15) (fun _=>Ca) hx Tryz.Cu.mixed k22 (NH (by simp)) [87,86,85,10,3,4,80] [] (by kernel_rfl) hs hq
theorem AzO{r mi it:Nat}(hx:Dp cx E5)(hs:Sub ((87,some (.int .i64 0))::(86,some (.int .i64 0))::(85,some .nils)::(10,some .nils)::fr3 (.ref r 0) mi it) ff0)(hq:∀ff1,Sub ((88,some (.bool false))::fr3 (.ref r 0) mi it) ff1→Q .normal ff1 σ):HT Tryz.prog cx 105 n c23 ff0 σ Q:=
 HT.pk (R:=R15) (fun _=>Ca) hx Tryz.Cu.mixed k23 (NH (by simp)) [88,3,4,80] [] (by kernel_rfl) hs hq
abbrev fr7(r mi it i g o l:Nat)(j:Int):FF:=(87,some (.int .i64 j))::(86,some (.int .i64 (l:Int)))::(85,some (.arr i g o l 1))::(10,some (.arr i g o l 1))::fr3 (.ref r 0) mi it
theorem u23{r mi it i g o l:Nat}{j:Int}(hx:Dp cx E5)(hs:Sub (fr7 r mi it i g o l j) ff0)(hq:∀ff1,Sub ((88,some (.bool (decide (j<(l:Int)))))::fr7 r mi it i g o l j) ff1→Q .normal ff1 σ):HT Tryz.prog cx 105 n c23 ff0 σ Q:=
 HT.pk (R:=R15) (fun _=>Ca) hx Tryz.Cu.mixed k23 (NH (by simp)) [88,87,86,85,10,3,4,80] [sq 0 (k:=.p (.bin .lss 0)) (vs:=[.int .i64 j,.int .i64 (l:Int)]) (rs:=[some (.bool (decide (j<(l:Int))))]) (σ:=σ) (σ':=σ) (fun n=>rfl)] (by kernel_rfl) hs hq
theorem wD{b:Bool}{r mi it:Nat}(hx:Dp cx E5)(hb:b=false)(hs:Sub ((88,some (.bool b))::fr3 (.ref r 0) mi it) ff0)(hq:∀ff1,Sub (fr3 (.ref r 0) mi it) ff1→Q (.exit 8) ff1 σ):HT Tryz.prog cx 105 n cK8 ff0 σ Q:=by
 subst hb;exact HT.pk (R:=R15) (fun _=>Ca) hx Tryz.Cu.mixed kK8 (NH (by simp)) [3,4,80] [] (by kernel_rfl) hs hq
theorem uK8{r mi it i g o l:Nat}{j:Int}{b:Bool}(hb:b=true)(hx:Dp cx E5)(hs:Sub ((88,some (.bool b))::fr7 r mi it i g o l j) ff0)(hq:∀ff1,Sub (fr7 r mi it i g o l j) ff1→Q .normal ff1 σ):HT Tryz.prog cx 105 n cK8 ff0 σ Q:=by
 subst hb;exact HT.pk (R:=R15) (fun _=>Ca) hx Tryz.Cu.mixed kK8 (NH (by simp)) [87,86,85,10,3,4,80] [] (by kernel_rfl) hs hq
theorem u24{r mi it i g o l:Nat}{j u:Int}(hx:Dp cx E5)(h1:AJ (.idx 1) [.arr i g o l 1,.int .i64 j]=some [some (.aptr i g 1 (o+j.toNat) 0)])(h2:BR (.ld 1 false) [.aptr i g 1 (o+j.toNat) 0] σ=some [some (.int .i64 u)])(hs:Sub (fr7 r mi it i g o l j) ff0)(hq:∀ff1,Sub ((11,some (.int .i64 j))::(12,some (.int .i64 u))::fr7 r mi it i g o l j) ff1→Q .normal ff1 σ):HT Tryz.prog cx 105 n c24 ff0 σ Q:=
 HT.pk (R:=R15) (fun _=>Ca) hx Tryz.Cu.mixed k24 (NH (by simp)) [11,12,87,86,85,10,3,4,80] [sq 1 (k:=.p (.idx 1)) (vs:=[.arr i g o l 1,.int .i64 j]) (rs:=[some (.aptr i g 1 (o+j.toNat) 0)]) (σ:=σ) (σ':=σ) (fun n=>show(AJ _ _).map _=_ from by rw[h1];rfl),sq 0 (k:=.r (.ld 1 false)) (vs:=[.aptr i g 1 (o+j.toNat) 0]) (rs:=[some (.int .i64 u)]) (σ:=σ) (σ':=σ) (fun n=>show(BR _ _ σ).map _=_ from by rw[h2];rfl)] (by kernel_rfl) hs hq
theorem u25{r mi it i g o l:Nat}{j u x:Int}{σ':Sto}(hx:Dp cx E5)(h0:BR (.lkM (.int .i64 0) false (.i .i64)) [.mref mi,.int .i64 u] σ=some [some (.int .i64 x)])(h1:AJ (.idx 1) [.arr i g o l 1,.int .i64 j]=some [some (.aptr i g 1 (o+j.toNat) 0)])(h2:Cq pur GQ (.st 1) [.aptr i g 1 (o+j.toNat) 0,.int .i64 x] σ=some ([],σ'))(hs:Sub ((11,some (.int .i64 j))::(12,some (.int .i64 u))::fr7 r mi it i g o l j) ff0)(hq:∀ff1,Sub (fr7 r mi it i g o l j) ff1→Q .normal ff1 σ'):HT Tryz.prog cx 105 n c25 ff0 σ Q:=
 HT.pk (R:=R15) (fun _=>Ca) hx Tryz.Cu.mixed k25 (NH (by simp)) [87,86,85,10,3,4,80] [sq 4 (k:=.r (.lkM (.int .i64 0) false (.i .i64))) (vs:=[.mref mi,.int .i64 u]) (rs:=[some (.int .i64 x)]) (σ:=σ) (σ':=σ) (fun n=>show(BR _ _ σ).map _=_ from by rw[h0];rfl),sq 0 (k:=.p (.idx 1)) (vs:=[.arr i g o l 1,.int .i64 j]) (rs:=[some (.aptr i g 1 (o+j.toNat) 0)]) (σ:=σ) (σ':=σ) (fun n=>show(AJ _ _).map _=_ from by rw[h1];rfl),sq 0 (k:=.w (.st 1)) (vs:=[.aptr i g 1 (o+j.toNat) 0,.int .i64 x]) (rs:=[]) (σ:=σ) (σ':=σ') (fun n=>h2)] (by kernel_rfl) hs hq
theorem u26{r mi it i g o l:Nat}{j:Int}(hx:Dp cx E5)(hj:IntKind.i64.wrap (j+1)=j+1)(hs:Sub (fr7 r mi it i g o l j) ff0)(hq:∀ff1,Sub (fr7 r mi it i g o l (j+1)) ff1→Q .normal ff1 σ):HT Tryz.prog cx 105 n c26 ff0 σ Q:=
 HT.pk (R:=R15) (fun _=>Ca) hx Tryz.Cu.mixed k26 (NH (by simp)) [87,86,85,10,3,4,80] [sq 0 (k:=.p (.bin .add 0)) (vs:=[.int .i64 j,.int .i64 1]) (rs:=[some (.int .i64 (j+1))]) (σ:=σ) (σ':=σ) (fun n=>show some ([some (PV.int .i64 (IntKind.i64.wrap (j+1)))],σ)=_ from by rw[hj])] (by kernel_rfl) hs hq
end
end
end Go.Abs.Z

namespace Go.Abs.Z
open Go.Proofs Go.RowKit Go.Sort
set_option linter.unusedVariables false
theorem Qz{a b:FF}(ls:List Nat)(h:MO ls b=a):Sub a b:=h▸HZ ls b
abbrev ints(l:List Int):List PV:=l.map (PV.int .i64)
theorem uT{σ:Sto}{mi:Nat}{kx:List Kx}{xs:List Int}(h:mapOf σ[mi]?=some (.i .i64,.int .i64 0,kx,ints xs))(u:Int):∃x,BR (.lkM (.int .i64 0) false (.i .i64)) [.mref mi,.int .i64 u] σ=some [some (.int .i64 x)]:=by
 have hz:O9 (.int .i64 0) (.int .i64 0)=true:=by kernel_rfl
 simp only[BR,h,MJ,if_true,hz,and_self];cases hl:Gq (.i .i64 u) kx (ints xs) with
 |none=>exact⟨0,rfl⟩
 |some v=>
  obtain⟨j,_,hj⟩:=AO.1 hl;rw[Af] at hj;obtain⟨x,_,rfl⟩:=Ac.1 hj;exact⟨x,rfl⟩
theorem jO{σ:Sto}{i mi g:Nat}{l:List PV}{x:KD×PV×List Kx×List PV}(h:mapOf σ[mi]?=some x)(h2:σ[i]?=some [.arrv g 1 l]):mi≠i:=by
 rintro rfl
 rw[h2] at h;cases h
theorem gK{α:Type}{l:List α}{i:Nat}{x:α}(h:l[i]?=some x):l.set i x=l:=by
 apply BH;intro j;rw[BO];split
 ·rename_i e;subst e;rw[if_pos (Ab.1 h).1,h]
 ·rfl
section
variable{cx:Cx}{n:Nat}{ff0:FF}{σ σ1:Sto}{Q:Bt→FF→Sto→Prop}
theorem uZ{r mi it i g o l:Nat}{kx:List Kx}{xs zs:List Int}(hx:Dp cx E5)(hm:mapOf σ1[mi]?=some (.i .i64,.int .i64 0,kx,ints xs))(hi:σ1[i]?=some [.arrv g 1 (ints zs)])(hol:o+l≤zs.length)(hl:l<9000000000)
  (hs:Sub (fr7 r mi it i g o l 0) ff0) (hq:∀ff1 zs',Sub (fr3 (.ref r 0) mi it) ff1→zs'.length=zs.length→Q (.exit 8) ff1 (σ1.set i [.arrv g 1 (ints zs')])):HT Tryz.prog cx 105 n (.loop cL8) ff0 σ1 Q:=by
 let J:Nat→FF→Sto→Prop:=fun k ff σ'=>∃(j:Nat) (zs':List Int),k=l - j∧j≤l∧Sub (fr7 r mi it i g o l (j:Int)) ff∧zs'.length=zs.length∧σ'=σ1.set i [.arrv g 1 (ints zs')]
 refine HT.loop J (m:=l) ⟨0,zs,by omega,by omega,hs,rfl,(gK hi).symm⟩ ?_
 rintro k ff σ' ⟨j,zs',rfl,hj,hs,hz,rfl⟩
 have hil:i<σ1.length:=(Ab.1 hi).1;have hi':(σ1.set i [PV.arrv g 1 (ints zs')])[i]?=some [.arrv g 1 (ints zs')]:=AP hil
 have hm':mapOf (σ1.set i [PV.arrv g 1 (ints zs')])[mi]?=some (.i .i64,.int .i64 0,kx,ints xs):=by
  rw[Ap (Ne.symm (jO hm hi))];exact hm
 rw[l5];refine HT.seq (R:=fun e ff1 σ2=>e=.normal∧σ2=σ1.set i [.arrv g 1 (ints zs')]∧Sub ((88,some (.bool (decide ((j:Int) < (l:Int)))))::fr7 r mi it i g o l j) ff1) (u23 hx hs fun ff1 h=>⟨rfl,rfl,h⟩) ?_ (fun e _ _ he h=>absurd h.1 he)
 rintro ff1 _ ⟨_,rfl,h1⟩
 by_cases hjl:j<l
 ·have hd:decide ((j:Int) < (l:Int))=true:=by simpa using hjl
  refine HT.seq (R:=fun e ff1 σ2=>e=.normal∧σ2=σ1.set i [.arrv g 1 (ints zs')]∧Sub (fr7 r mi it i g o l j) ff1) (uK8 hd hx h1 fun ff1 h=>⟨rfl,rfl,h⟩) ?_ (fun e _ _ he h=>absurd h.1 he)
  rintro ff2 _ ⟨_,rfl,h2⟩
  have hlt:o+j<zs'.length:=by omega
  have hidx:AJ (.idx 1) [.arr i g o l 1,.int .i64 j]=some [some (.aptr i g 1 (o+(j:Int).toNat) 0)]:=by
   simp only[AJ,K7];rw[if_pos ⟨trivial,by omega,by omega⟩];rfl
  have hld:BR (.ld 1 false) [.aptr i g 1 (o+(j:Int).toNat) 0] (σ1.set i [.arrv g 1 (ints zs')])=some [some (.int .i64 zs'[o+j])]:=by
   simp only[BR,hi',Dq,and_self,if_true,Bz,Af,Ad hlt,Ay];rfl
  obtain⟨x,hlk⟩:=uT hm' zs'[o+j]
  have hst:Cq pur GQ (.st 1) [.aptr i g 1 (o+(j:Int).toNat) 0,.int .i64 x] (σ1.set i [.arrv g 1 (ints zs')])=some ([],σ1.set i [.arrv g 1 (ints (zs'.set (o+j) x))]):=by
   have e:(ints zs').set (o+j) (.int .i64 x)=ints (zs'.set (o+j) x):=by simp[ints,List.map_set]
   have hc:(PV.int IntKind.i64 x).cells.length=1∧(PV.int IntKind.i64 x).okc∧(PV.int IntKind.i64 x).ones:=⟨rfl,rfl,rfl⟩;simp only[Cq,hi',Dq,and_self,if_true,Bz,Af,Ad hlt,Ay,if_pos hc];show(Option.map _ (upd (.int .i64 zs'[o+j]) 0 (.int .i64 x)))=_;have hu:upd (.int .i64 zs'[o+j]) 0 (.int .i64 x)=some (.int .i64 x):=by kernel_rfl
   rw[hu];simp only[Ay,List.set_set,e]
  refine HT.seq (R:=fun e ff1 σ2=>e=.normal∧σ2=σ1.set i [.arrv g 1 (ints (zs'.set (o+j) x))]∧Sub (fr7 r mi it i g o l j) ff1) ?_ ?_ (fun e _ _ he h=>absurd h.1 he)
  ·refine HT.block (R:=fun e ff1 σ2=>e=.normal∧σ2=σ1.set i [.arrv g 1 (ints (zs'.set (o+j) x))]∧Sub (fr7 r mi it i g o l j) ff1) ?_ (fun _ _ h=>by cases h.1) (fun _ _ _ _ h=>h)
   refine HT.seq (R:=fun e ff1 σ2=>e=.normal∧σ2=σ1.set i [.arrv g 1 (ints zs')]∧Sub ((11,some (.int .i64 j))::(12,some (.int .i64 zs'[o+j]))::fr7 r mi it i g o l j) ff1) (u24 hx hidx hld h2 fun ff1 h=>⟨rfl,rfl,h⟩) ?_ (fun e _ _ he h=>absurd h.1 he)
   rintro ff3 _ ⟨_,rfl,h3⟩
   exact u25 hx hlk hidx hst h3 fun ff1 h=>⟨rfl,rfl,h⟩
  ·rintro ff3 _ ⟨_,rfl,h3⟩
   have hw:IntKind.i64.wrap ((j:Int)+1)=(j:Int)+1:=by
    rw[IntKind.wrap_i64];omega
   exact u26 hx hw h3 fun ff1 h=>.inl ⟨rfl,l - (j+1),by omega,j+1,zs'.set (o+j) x,rfl,by omega,by exact_mod_cast h,by simpa using hz,rfl⟩
 ·have hd:decide ((j:Int) < (l:Int))=false:=by simpa using hjl
  have h1':Sub ((88,some (.bool false))::fr3 (.ref r 0) mi it) ff1:=by
   rw[hd] at h1;exact(Qz [88,3,4,80] (by kernel_rfl)).trans h1
  refine HT.seq (R:=fun e ff1 σ2=>e=.exit 8∧σ2=σ1.set i [.arrv g 1 (ints zs')]∧Sub (fr3 (.ref r 0) mi it) ff1) (wD hx rfl h1' fun ff1 h=>⟨rfl,rfl,h⟩) (fun _ _ h=>by cases h.1) ?_
  rintro e ff2 _ _ ⟨rfl,rfl,h2⟩
  exact .inr ⟨by simp,hq ff2 zs' h2 hz⟩
end
end Go.Abs.Z

namespace Go.Abs.Z
open Go.Proofs Go.RowKit Go.Sort
set_option linter.unusedVariables false
noncomputable def kill(ids:List Nat)(σ:Sto):Sto:=List.rec (motive:=fun _=>Sto→Sto) (fun σ=>σ) (fun i _ ih σ=>ih (σ.set i [.dead])) ids σ
theorem TV(i:Nat)(ids:List Nat)(σ:Sto):kill (i::ids) σ=kill ids (σ.set i [.dead]):=rfl
theorem Xn:∀(ids:List Nat) (σ:Sto),(kill ids σ).length=σ.length
 |[],_=>rfl
 |i::ids,σ=>by rw[TV,Xn];simp
theorem Xo:∀(ids:List Nat) (σ:Sto) (j:Nat),(kill ids σ)[j]?=σ[j]?∧j∉ids∨(∀cs,(kill ids σ)[j]?=some cs→cs=[.dead])∧j∈ids
 |[],σ,j=>.inl ⟨rfl,by simp⟩
 |i::ids,σ,j=>by
  rw[TV];rcases Xo ids (σ.set i [.dead]) j with⟨h,hn⟩ | ⟨h,hn⟩
  ·by_cases hij:i=j
   ·subst hij;refine .inr ⟨fun cs hc=>?_,by simp⟩
    rw[h,BO] at hc;simp only[if_true] at hc
    split at hc
    ·exact(Option.some.inj hc).symm
    ·cases hc
   ·refine .inl ⟨by rw[h,Ap hij],?_⟩
    simp[hn];exact fun e=>hij e.symm
  ·exact .inr ⟨h,by simp[hn]⟩
def VT(σ:Sto)(v:PV):Bool:=match v with
 |.nils=>true
 |.arr id g o l s=>match σ[id]? with
  |some cs=>match Dq cs g 1 with
   |some es=>match OP es with
    |some zs=>decide (s=1)&&(decide (o+l≤zs.length)&&decide (l<9000000000))
    |none=>false
   |none=>false
  |none=>false
 |_=>false
def Qv(v:PV):List Nat:=match v with
 |.arr id _ _ _ _=>[id]
 |_=>[]
theorem Qu{σ:Sto}{v:PV}(h:VT σ v=true):v=.nils∨∃i g o l zs,v=.arr i g o l 1∧σ[i]?=some [.arrv g 1 (ints zs)]∧o+l≤zs.length∧l<9000000000:=by
 unfold VT at h
 split at h
 ·exact .inl rfl
 ·split at h
  ·rename_i cs hc
   split at h
   ·rename_i es he
    split at h
    ·rename_i zs hz;simp only[Ak,decide_eq_true_eq] at h;obtain⟨rfl,h1,h2⟩:=h;refine .inr ⟨_,_,_,_,zs,rfl,?_,h1,h2⟩
     unfold Dq at he
     split at he
     ·split at he
      ·rename_i hh;cases he;rw[hc,hh.1,hh.2,Mt hz]
      ·cases he
     ·cases he
    ·cases h
   ·cases h
  ·cases h
 ·cases h
structure IP(σ0:Sto)(vs:List PV)(it:Nat)(σ1:Sto):Prop where
 len:σ1.length=σ0.length
 old:∀id,id∉vs.flatMap Qv→id≠it→σ1[id]?=σ0[id]?
 arr:∀v∈vs,v=.nils∨∃i g o l zs,v=.arr i g o l 1∧σ1[i]?=some [.arrv g 1 (ints zs)]∧o+l≤zs.length∧l<9000000000
theorem IP.put{σ0 σ1:Sto}{vs:List PV}{it i g:Nat}{zs zs':List Int}(h:IP σ0 vs it σ1)(hi:i∈vs.flatMap Qv)(h1:σ1[i]?=some [.arrv g 1 (ints zs)])(hz:zs'.length=zs.length):IP σ0 vs it (σ1.set i [.arrv g 1 (ints zs')]):=by
 refine⟨by rw[Bo];exact h.len,fun id h2 h3=>?_,fun v hv=>?_⟩
 ·have hne:i≠id:=by rintro rfl;exact h2 hi
  rw[Ap hne];exact h.old id h2 h3
 ·rcases h.arr v hv with rfl | ⟨i',g',o,l,zs2,rfl,h3,h4,h5⟩
  ·exact .inl rfl
  ·refine .inr ⟨i',g',o,l,?_⟩
   by_cases he:i=i'
   ·subst he;rw[h1] at h3;simp only[Option.some.injEq,List.cons.injEq,PV.arrv.injEq,and_true,true_and] at h3;obtain⟨hg,hzz⟩:=h3;have hl:zs.length=zs2.length:=by simpa [ints] using congrArg List.length hzz
    subst hg;exact⟨zs',rfl,AP (Ab.1 h1).1,by omega,h5⟩
   ·exact⟨zs2,rfl,by rw[Ap he];exact h3,h4,h5⟩
theorem IP.itr{σ0 σ1:Sto}{vs:List PV}{it m since:Nat}{seen:List Nat}{cs:List PV}(h:IP σ0 vs it σ1)(hit:FC σ1[it]?=some (m,since,seen)):IP σ0 vs it (σ1.set it cs):=by
 refine⟨by rw[Bo];exact h.len,fun id h2 h3=>?_,fun v hv=>?_⟩
 ·rw[Ap (Ne.symm h3)];exact h.old id h2 h3
 ·rcases h.arr v hv with rfl | ⟨i',g',o,l,zs2,rfl,h3,h4,h5⟩
  ·exact .inl rfl
  ·have he:it≠i':=by
    rintro rfl
    rw[h3] at hit;cases hit
   exact .inr ⟨i',g',o,l,zs2,rfl,by rw[Ap he];exact h3,h4,h5⟩
theorem IP.dead{σ0 σ1:Sto}{vs:List PV}{it:Nat}(h:IP σ0 vs it σ1):Dead σ1 (kill (it::vs.flatMap Qv) σ0):=by
 refine⟨by rw[Xn];exact h.len,fun id cs hc=>?_⟩
 rcases Xo (it::vs.flatMap Qv) σ0 id with⟨h1,h2⟩ | ⟨h1,_⟩
 ·simp only[Av,not_or] at h2;rw[h1] at hc;exact .inl (by rw[h.old id h2.2 h2.1];exact hc)
 ·exact .inr (h1 cs hc)
section
variable{cx:Cx}{n:Nat}{ff0:FF}{σ:Sto}{Q:Bt→FF→Sto→Prop}
theorem uk{r mi it m since:Nat}{d:KD}{z:PV}{ks kx:List Kx}{vs:List PV}{xs:List Int}(hx:Dp cx E5)(hm:mapOf σ[mi]?=some (.i .i64,.int .i64 0,kx,ints xs))(hit:FC σ[it]?=some (m,since,[]))(hmm:mapOf σ[m]?=some (d,z,ks,vs))(hk:ks.length=since)(hv:vs.length=since)(hvs:vs.all (VT σ)=true)
  (hs:Sub (fr3 (.ref r 0) mi it) ff0) (hq:∀ff1 σ1,Sub (fr3 (.ref r 0) mi it) ff1→IP σ vs it σ1→Q (.exit 6) ff1 σ1):HT Tryz.prog cx 105 n (.loop cL6) ff0 σ Q:=by
 have hkeep:∀{σ1:Sto} {j:Nat} {x:KD×PV×List Kx×List PV},IP σ vs it σ1→mapOf σ[j]?=some x→mapOf σ1[j]?=some x:=fun {σ1 j x} h hj=>by
  rw[h.old j ?_ ?_];exact hj
  ·intro hc;obtain⟨v,hv,hid⟩:=CE.1 hc;rcases Qu (Ao.1 hvs v hv) with rfl | ⟨i,g,o,l,zs,rfl,h1,_⟩
   ·cases hid
   ·simp only[Qv,List.mem_singleton] at hid;subst hid;rw[h1] at hj;cases hj
  ·rintro rfl
   unfold FC at hit
   split at hit
   ·rename_i h1;rw[h1] at hj;cases hj
   ·cases hit
 let J:Nat→FF→Sto→Prop:=fun mm ff σ1=>∃seen,mm=(Fe since seen).length∧Sub (fr3 (.ref r 0) mi it) ff∧FC σ1[it]?=some (m,since,seen)∧IP σ vs it σ1
 refine HT.loop J (m:=(Fe since []).length) ⟨[],rfl,hs,hit,⟨rfl,fun _ _ _=>rfl,fun v hv=>Qu (Ao.1 hvs v hv)⟩⟩ ?_
 rintro mm ff σ1 ⟨seen,rfl,hs,hit,hst⟩
 have hm1:=hkeep hst hm;have hmm1:=hkeep hst hmm;rw[vI]
 refine HT.seq (R:=fun e ff1 σ2=>e=.normal∧((σ2=σ1∧Sub ((82,some (.bool false))::fr3 (.ref r 0) mi it) ff1) ∨
  ∃j kk v,j∈Fe since seen∧ks[j]?=some kk∧vs[j]?=some v∧σ2=σ1.set it [.itr m since (seen++[j])]∧Sub ((82,some (.bool true))::fr3 (.ref r 0) mi it) ff1)) ?_ ?_ (fun e _ _ he h=>absurd h.1 he)
 ·have hsub:∀(v b:PV),Sub ((82,some b)::fr3 (.ref r 0) mi it) ((82,some b)::(81,some v)::ff):=by
   intro v b t y h;have h3:=hs t y;rw[FV] at h ⊢;cases hb:Nat.beq 82 t with
   |true=>simp only[hb] at h ⊢;exact h
   |false=>
    simp only[hb] at h ⊢;have h:Dm (fr3 (.ref r 0) mi it) t=some y:=h;show Dm ((81,some v)::ff) t=some y;rw[FV];cases hc:Nat.beq 81 t with
    |true=>
     have:=AU hc;subst this;cases h
    |false=>exact h3 h
  rw[vL];refine HT.next Ca hx k20 AvU uy uw (d:=81) (by kernel_rfl) (by kernel_rfl) (by kernel_rfl) (by kernel_rfl) (by decide) (by decide) (hs 80 _ rfl) hit hmm1 hk (fun v hv=>?_) (fun hl=>⟨_,_,tT ff σ1,rfl,.inl ⟨rfl,hsub _ _⟩⟩) (fun j hj k v hk hv=>?_)
  ·rcases hst.arr v hv with rfl | ⟨i,g,o,l,zs,rfl,_⟩<;>rfl
  ·rcases hst.arr v (AA hv) with rfl | ⟨i,g,o,l,zs,rfl,_⟩
   ·exact⟨_,_,tO k ff _,rfl,.inr ⟨j,k,_,hj,hk,hv,rfl,hsub _ _⟩⟩
   ·exact⟨_,_,tQ k i g o l ff _,rfl,.inr ⟨j,k,_,hj,hk,hv,rfl,hsub _ _⟩⟩
 rintro ff1 σ2 ⟨_,⟨rfl,h1⟩ | ⟨j,kk,v,hj,hkk,hvj,rfl,h1⟩⟩
 ·refine HT.seq (R:=fun e ff1 σ3=>e=.exit 6∧σ3=σ2∧Sub (fr3 (.ref r 0) mi it) ff1) (uK6 (b:=false) hx h1 fun ff1 h=>⟨rfl,rfl,h⟩) (fun _ _ h=>by cases h.1) ?_
  rintro e ff2 σ3 _ ⟨rfl,rfl,h2⟩
  exact .inr ⟨by simp,hq _ _ h2 hst⟩
 have hitl:it<σ1.length:=by
  unfold FC at hit
  split at hit
  ·rename_i hh;exact(Ab.1 hh).1
  ·cases hit
 have hst2:=hst.itr (cs:=[.itr m since (seen++[j])]) hit;have hm2:=hkeep hst2 hm;have hmm2:=hkeep hst2 hmm;have hit2:FC (σ1.set it [.itr m since (seen++[j])])[it]?=some (m,since,seen++[j]):=by rw[AP hitl];rfl
 have hvv:=hst2.arr v (AA hvj)
 have hvform:v=.nils∨∃i g o l,v=.arr i g o l 1:=by
  rcases hvv with h | ⟨i,g,o,l,_,h,_⟩
  ·exact .inl h
  ·exact .inr ⟨i,g,o,l,h⟩
 have hen:BR .enI [.ref it 0] (σ1.set it [.itr m since (seen++[j])])=some [some (.tuple [kk.pv,v])]:=by
  have hfl:(v.flat||v.EF)=true∧v.Ag=v:=by
   rcases hvform with rfl | ⟨i,g,o,l,rfl⟩<;>exact⟨rfl,rfl⟩
  simp only[BR,hit2,hmm2,List.getLast?_append,List.getLast?_singleton,Option.some_or,hkk,hvj,hk,hfl]
  rfl
 refine HT.seq (R:=fun e ff1 σ3=>e=.normal∧σ3=σ1.set it [.itr m since (seen++[j])]∧Sub (fr3 (.ref r 0) mi it) ff1) (uK6 (b:=true) hx h1 fun ff1 h=>⟨rfl,rfl,h⟩) ?_ (fun e _ _ he h=>absurd h.1 he)
 rintro ff2 _ ⟨_,rfl,h2⟩
 have fin:∀ff3 σ3,Sub (fr3 (.ref r 0) mi it) ff3→FC σ3[it]?=some (m,since,seen++[j])→IP σ vs it σ3→∃k,k<(Fe since seen).length∧J k ff3 σ3:=fun ff3 σ3 h3 h4 h5=>⟨_,Xi hj,seen++[j],rfl,h3,h4,h5⟩
 refine HT.block (R:=fun e ff1 σ3=>e=.normal∧Sub (fr3 (.ref r 0) mi it) ff1∧FC σ3[it]?=some (m,since,seen++[j])∧IP σ vs it σ3) ?_ (fun _ _ h=>by cases h.1) (fun e ff3 σ3 he h=>.inl ⟨h.1,fin _ _ h.2.1 h.2.2.1 h.2.2.2⟩)
 refine HT.seq (R:=fun e ff1 σ3=>e=.normal∧σ3=σ1.set it [.itr m since (seen++[j])]∧Sub ((10,some v)::fr3 (.ref r 0) mi it) ff1) (u21 hx (av kk) hvform hen h2 fun ff1 h=>⟨rfl,rfl,h⟩) ?_ (fun e _ _ he h=>absurd h.1 he)
 rintro ff3 _ ⟨_,rfl,h3⟩
 rcases hvv with rfl | ⟨i,g,o,l,zs,rfl,hi,hol,hl⟩
 ·refine HT.seq (R:=fun e ff1 σ3=>e=.normal∧σ3=σ1.set it [.itr m since (seen++[j])]∧Sub ((87,some (.int .i64 0))::(86,some (.int .i64 0))::(85,some .nils)::(10,some .nils)::fr3 (.ref r 0) mi it) ff1) (AzP hx h3 fun ff1 h=>⟨rfl,rfl,h⟩) ?_ (fun e _ _ he h=>absurd h.1 he)
  rintro ff4 _ ⟨_,rfl,h4⟩
  refine HT.block (R:=fun e ff1 σ3=>e=.exit 8∧σ3=σ1.set it [.itr m since (seen++[j])]∧Sub (fr3 (.ref r 0) mi it) ff1) ?_ (fun ff5 σ5 h=>⟨rfl,h.2.2,by rw[h.2.1];exact hit2,by rw[h.2.1];exact hst2⟩) (fun _ _ _ he h=>absurd h.1 he)
  refine HT.loop (fun _ ff σ5=>σ5=σ1.set it [.itr m since (seen++[j])]∧Sub ((87,some (.int .i64 0))::(86,some (.int .i64 0))::(85,some .nils)::(10,some .nils)::fr3 (.ref r 0) mi it) ff) (m:=0) ⟨rfl,h4⟩ ?_
  rintro _ ff5 _ ⟨rfl,h5⟩
  rw[l5];refine HT.seq (R:=fun e ff1 σ3=>e=.normal∧σ3=σ1.set it [.itr m since (seen++[j])]∧Sub ((88,some (.bool false))::fr3 (.ref r 0) mi it) ff1) (AzO hx h5 fun ff1 h=>⟨rfl,rfl,h⟩) ?_ (fun e _ _ he h=>absurd h.1 he)
  rintro ff6 _ ⟨_,rfl,h6⟩
  refine HT.seq (R:=fun e ff1 σ2=>e=.exit 8∧σ2=σ1.set it [.itr m since (seen++[j])]∧Sub (fr3 (.ref r 0) mi it) ff1) (wD hx rfl h6 fun ff1 h=>⟨rfl,rfl,h⟩) (fun _ _ h=>by cases h.1) ?_
  rintro e ff7 _ _ ⟨rfl,rfl,h7⟩
  exact .inr ⟨by simp,rfl,rfl,h7⟩
 ·refine HT.seq (R:=fun e ff1 σ3=>e=.normal∧σ3=σ1.set it [.itr m since (seen++[j])]∧Sub (fr7 r mi it i g o l 0) ff1) (u22 hx h3 fun ff1 h=>⟨rfl,rfl,h⟩) ?_ (fun e _ _ he h=>absurd h.1 he)
  rintro ff4 _ ⟨_,rfl,h4⟩
  have hmem:i∈vs.flatMap Qv:=CE.2 ⟨_,AA hvj,List.mem_singleton.2 rfl⟩
  have hne:it≠i:=by
   rintro rfl
   rw[hi] at hit2;cases hit2
  refine HT.block (R:=fun e ff1 σ3=>e=.exit 8∧Sub (fr3 (.ref r 0) mi it) ff1∧FC σ3[it]?=some (m,since,seen++[j])∧IP σ vs it σ3) ?_ (fun ff5 σ5 h=>⟨rfl,h.2⟩) (fun _ _ _ he h=>absurd h.1 he)
  refine uZ hx hm2 hi hol hl h4 fun ff5 zs' h5 hz=>⟨rfl,h5,?_,hst2.put hmem hi hz⟩
  rw[Ap (Ne.symm hne)];exact hit2
end
end Go.Abs.Z

namespace Go.Abs.Z
noncomputable section
open Go.Proofs Go.RowKit Go.Sort
set_option linter.unusedVariables false
def isZ(v:PV):Bool:=match v with
 |.int .i64 n=>decide (n=0)
 |_=>false
theorem uY{v:PV}(h:isZ v=true):v=.int .i64 0:=by
 unfold isZ at h
 split at h
 ·rw[of_decide_eq_true h]
 ·cases h
def tZ(rv mv iv:PV)(σ:Sto):Option (Nat×Nat×Nat×List PV):=match rv,mv,iv with
 |.ref r 0,.mref mi,.ref it 0=>match FC σ[it]? with
  |some (m,since,[])=>match mapOf σ[mi]? with
   |some (.i .i64,z0,_,xs)=>match OP xs with
    |some _=>match mapOf σ[m]? with
     |some (_,_,ks,vs)=>if isZ z0=true∧ks.length=since∧vs.length=since∧vs.all (VT σ)=true then some (r,mi,it,vs) else none
     |none=>none
    |none=>none
   |_=>none
  |_=>none
 |_,_,_=>none
theorem pz{rv mv iv:PV}{σ:Sto}{r mi it:Nat}{vs:List PV}(h:tZ rv mv iv σ=some (r,mi,it,vs)):rv=.ref r 0∧mv=.mref mi∧iv=.ref it 0∧∃m since d z ks kx xs,FC σ[it]?=some (m,since,[])∧mapOf σ[mi]?=some (.i .i64,.int .i64 0,kx,ints xs)∧mapOf σ[m]?=some (d,z,ks,vs)∧ks.length=since∧vs.length=since∧vs.all (VT σ)=true:=by
 unfold tZ at h
 split at h
 case h_2=>cases h
 split at h
 case h_2=>cases h
 rename_i hit
 split at h
 case h_2=>cases h
 rename_i hm
 split at h
 case h_2=>cases h
 rename_i hxs
 split at h
 case h_2=>cases h
 rename_i hmm
 split at h
 case isFalse=>cases h
 rename_i hh;cases h;exact⟨rfl,rfl,rfl,_,_,_,_,_,_,_,hit,by rw[hm,uY hh.1,Mt hxs],hmm,hh.2.1,hh.2.2.1,hh.2.2.2⟩
def pG:GM:=fun call args σ=>match args with
 |[v]=>match mh pur call 100000 asR (Ji [v] 0) σ with
  |some (ff1,σ1)=>match EI pur call 100000 (acV c19) ff1 σ1 with
   |some (.normal,ff2,σ2)=>match Dm ff2 3,Dm ff2 4,Dm ff2 80 with
    |some rv,some mv,some iv=>match tZ rv mv iv σ2 with
     |some (r,_,it,vs)=>match EI pur call 100000 (acV cZ) [(3,some (.ref r 0))] (kill (it::vs.flatMap Qv) σ2) with
      |some (.ret,ff3,σ3)=>match Gt ff3 [(2,none)] with
       |some ps=>(Fu ps).map fun x=>(x,σ3)
       |none=>none
      |_=>none
     |none=>none
    |_,_,_=>none
   |_=>none
  |none=>none
 |_=>none
def Uy:Cy:=cA 123 E5
theorem Az7:Gf Tryz.prog pur E5 Tryz.f123=some Uy:=by kernel_rfl
theorem xy:Uy.ntmps+Uy.extra=105:=by kernel_rfl
theorem xA:Uy.ntmps=105:=by kernel_rfl
theorem xC:Uy.nargs=1:=by kernel_rfl
theorem wM:Uy.results=[(2,none)]:=by kernel_rfl
theorem iI:FQ Tryz.prog 123 pG:=by
 intro call hS args σ r σ' hown h;unfold pG at h
 split at h
 case h_2=>cases h
 rename_i v
 split at h
 case h_2=>cases h
 rename_i ff1 σ1 h1
 split at h
 case h_2=>cases h
 rename_i ff2 σ2 h2
 split at h
 case h_2=>cases h
 rename_i rv mv iv hg3 hg4 hg80
 split at h
 case h_2=>cases h
 rename_i rr mi it vs hv
 split at h
 case h_2=>cases h
 rename_i ff3 σ3 h3
 split at h
 case h_2=>cases h
 rename_i ps hps;obtain⟨x,hpk,hx⟩:=Ac.1 h;obtain⟨rfl,rfl⟩:x=r∧σ3=σ':=by cases hx;exact⟨rfl,rfl⟩
 obtain⟨rfl,rfl,rfl,m,since,d,z,ks,kx,xs,hit,hm,hmm,hk,hvl,hvs⟩:=pz hv;refine HT.fn (fn:=Tryz.f123) (c:=aJ) Tryz.func123 (by kernel_rfl) (by kernel_rfl) Az7 hown ⟨by rw[xC];rfl,by rw[xA];show 1≤105;decide⟩ fun cx n hx=>?_
 rw[xy,l6];refine HT.chain hS hx Tryz.Cu.mixed _ _ _ _ _ kR okR h1 ?_
 refine HT.seq (R:=fun e ff σ4=>e=.normal∧Sub (fr3 (.ref rr 0) mi it) ff∧IP σ2 vs it σ4) ?_ ?_ (fun e _ _ he h=>absurd h.1 he)
 ·refine HT.seq (R:=fun e ff σ4=>e=.normal∧ff2=ff∧σ2=σ4) (HT.code hS hx Tryz.Cu.mixed k19 (NH (by simp)) h2 ⟨rfl,rfl,rfl⟩) ?_ (fun e _ _ he h=>absurd h.1 he)
  rintro ffa σa ⟨_,rfl,rfl⟩
  refine HT.block (R:=fun e ff σ4=>e=.exit 6∧Sub (fr3 (.ref rr 0) mi it) ff∧IP σ2 vs it σ4) ?_ (fun _ _ h=>⟨rfl,h.2⟩) (fun _ _ _ he h=>absurd h.1 he)
  refine uk hx hm hit hmm hk hvl hvs (fun t y ht=>?_) fun ff4 σ4 h4 h5=>⟨rfl,h4,h5⟩
  have e:fr3 (.ref rr 0) mi it=MO [3,4,80] ff2:=by
   show _=[(3,Dm ff2 3),(4,Dm ff2 4),(80,Dm ff2 80)];rw[hg3,hg4,hg80]
  rw[e] at ht;exact HZ _ _ t y ht
 ·rintro ff4 σ4 ⟨_,h4,h5⟩
  refine HT.dead h5.dead ?_
  exact HT.sub ((Qz [3] rfl).trans h4) (HT.code hS hx Tryz.Cu.mixed kZ (NH (by simp)) h3 ⟨.inr rfl,ps,by rw[wM];exact hps,hpk,Dead.refl _⟩)
end
end Go.Abs.Z

namespace Go.Abs.Z
noncomputable section
open Go.Proofs Go.RowKit
def WP:List (FuncId×GM):=[(145,TF pur itr 1000 ae),(122,TF pur itr 1000 ah),(15,KY),(219,iZ),(123,pG)]
def MP(l:List (FuncId×GM))(f:FuncId):Option GM:=List.rec (motive:=fun _=>Option GM) none (fun p _ ih=>cond (Nat.beq p.1 f) (some p.2) ih) l
def ry(f:FuncId):Option GM:=MP WP f
theorem LB:∀(l:List (FuncId×GM)),(∀x∈l,FQ Tryz.prog x.1 x.2)→∀f g,MP l f=some g→FQ Tryz.prog f g
 |[],_,f,g,h=>by cases h
 |p::l,hl,f,g,h=>by
  have h':cond (Nat.beq p.1 f) (some p.2) (MP l f)=some g:=h;cases hb:Nat.beq p.1 f with
  |true=>
   rw[hb] at h';cases h';have:p.1=f:=AU hb;rw[←this];exact hl p (BG ..)
  |false=>rw[hb] at h';exact LB l (fun x hx=>hl x (Bw _ hx)) f g h'
theorem WO:∀x∈WP,FQ Tryz.prog x.1 x.2:=by
 intro x hx;simp only[WP,Av,AB,or_false] at hx;rcases hx with rfl | rfl | rfl | rfl | rfl
 ·exact ME Vq mixed Tryz.func145 (by kernel_rfl) lX
 ·exact ME Vq mixed Tryz.func122 (by kernel_rfl) lY
 ·exact Qd
 ·exact mJ
 ·exact iI
theorem iP:∀f g,ry f=some g→FQ Tryz.prog f g:=LB WP WO
def o9(n:Nat):Caller:=LW pur ry tab n
theorem QK(n:Nat):EW Tryz.prog (o9 n):=Ha mixed VW iP n
end
end Go.Abs.Z

namespace Go.Abs.Z
inductive Rch(src gen kill:Nat→Nat→Prop):Nat→Nat→Prop
 |gen {i v:Nat} (h:gen i v):Rch src gen kill i v
 |step {i j v:Nat} (hs:src i j) (h:Rch src gen kill j v) (hk:¬kill i v):Rch src gen kill i v
def Inn(src gen kill:Nat→Nat→Prop)(i v:Nat):Prop:=∃j,src i j∧Rch src gen kill j v
theorem Ml{src gen kill:Nat→Nat→Prop}{i v:Nat}:Rch src gen kill i v↔gen i v∨(Inn src gen kill i v∧¬kill i v):=
 ⟨fun h=>by
  cases h with
  |gen h=>exact .inl h
  |step hs h hk=>exact .inr ⟨⟨_,hs,h⟩,hk⟩,fun h=>by
  rcases h with h | ⟨⟨j,hs,h⟩,hk⟩
  ·exact .gen h
  ·exact .step hs h hk⟩
theorem TJ{src gen kill T:Nat→Nat→Prop}(hg:∀i v,gen i v→T i v)(hs:∀i j v,src i j→T j v→¬kill i v→T i v){i v:Nat}(h:Rch src gen kill i v):T i v:=by
 induction h with
 |gen h=>exact hg _ _ h
 |step h1 _ h3 ih=>exact hs _ _ _ h1 ih h3
def Srt(l:List Int):Prop:=l.Pairwise (· < ·)
theorem QD:∀{l k:List Int},Srt l→Srt k→(∀x,x∈l↔x∈k)→l=k:=by
 intro l k hl hk h;have e:l.Perm k:=(List.perm_ext_iff_of_nodup (hl.imp fun h=>by omega) (hk.imp fun h=>by omega)).2 h
 exact e.eq_of_pairwise (le:=(·≤·)) (fun a b _ _ h1 h2=>Int.le_antisymm h1 h2) (hl.imp fun h=>by omega) (hk.imp fun h=>by omega)
theorem Zv{l k:List Int}(hl:Srt l)(hk:Srt k)(h:∀x,x∈l→x∈k):l=k.filter fun x=>decide (x∈l):=
 QD hl (hk.filter _) fun x=>by simp;exact fun hx=>h x hx
theorem fJ{l k:List Int}(hl:Srt l)(hk:Srt k)(h:∀x,x∈l→x∈k):l.length≤k.length:=by
 rw[Zv hl hk h];exact List.length_filter_le _ _
theorem nA{l k:List Int}(hl:Srt l)(hk:Srt k)(h:∀x,x∈l→x∈k)(he:l.length=k.length):l=k:=by
 have e:=Zv hl hk h;refine QD hl hk fun x=>⟨h x,fun hx=>?_⟩
 have e2:(k.filter fun x=>decide (x∈l)).length=k.length:=by rw[←e];exact he
 have:=(List.length_filter_eq_length_iff.1 e2) x hx;simpa using this
def lst(p:Nat→Bool):List Int:=((List.range 1024).filter p).map Int.ofNat
theorem Vf(p:Nat→Bool):Srt (lst p):=by
 unfold Srt lst;rw[List.pairwise_map];exact(List.pairwise_lt_range.filter _).imp fun h=>Int.ofNat_lt.2 h
theorem U3{p:Nat→Bool}{x:Int}:x∈lst p↔∃v:Nat,v<1024∧p v=true∧x=v:=by
 simp only[lst,List.mem_map,List.mem_filter,List.mem_range];exact⟨fun⟨v,⟨h1,h2⟩,h3⟩=>⟨v,h1,h2,h3.symm⟩,fun⟨v,h1,h2,h3⟩=>⟨v,⟨h1,h2⟩,h3.symm⟩⟩
def I6(l:List Int)(n:Int):List Int:=if n∈l then l else l.takeWhile (fun x=>decide (x<n))++n::l.dropWhile (fun x=>decide (x<n))
def Iw(a b:List Int):List Int:=b.foldl I6 a
def Ih(set gen kill:List Int):List Int:=set.foldl (fun o x=>if x∈kill then o else I6 o x) gen
theorem TQ{l:List Int}{n x:Int}:x∈I6 l n↔x∈l∨x=n:=by
 unfold I6;split
 ·rename_i h;exact⟨.inl,fun h'=>h'.elim id fun e=>e▸h⟩
 ·have e:=List.takeWhile_append_dropWhile (p:=fun x=>decide (x<n)) (l:=l)
  constructor
  ·intro h;rcases List.mem_append.1 h with h | h
   ·exact .inl (e▸List.mem_append_left _ h)
   ·rcases List.mem_cons.1 h with h | h
    ·exact .inr h
    ·exact .inl (e▸List.mem_append_right _ h)
  ·rintro(h | h)
   ·rw[←e] at h;rcases List.mem_append.1 h with h | h
    ·exact List.mem_append_left _ h
    ·exact List.mem_append_right _ (List.mem_cons_of_mem _ h)
   ·exact List.mem_append_right _ (h▸List.mem_cons_self ..)
theorem tkW{l:List Int}{n:Int}:∀x∈l.takeWhile (fun x=>decide (x<n)),x<n:=by
 induction l with
 |nil=>intro x h;cases h
 |cons a l ih=>
  intro x h;rw[List.takeWhile_cons] at h
  split at h
  ·rename_i hc;rcases List.mem_cons.1 h with rfl | h
   ·simpa using hc
   ·exact ih x h
  ·cases h
theorem Az5{l:List Int}{n:Int}(hl:Srt l):∀x∈l.dropWhile (fun x=>decide (x<n)),n≤x:=by
 induction l with
 |nil=>intro x h;cases h
 |cons a l ih=>
  intro x h;rw[List.dropWhile_cons] at h
  split at h
  ·exact ih (List.pairwise_cons.1 hl).2 x h
  ·rename_i hc;simp only[decide_eq_true_eq] at hc;rcases List.mem_cons.1 h with rfl | h
   ·omega
   ·have:=(List.pairwise_cons.1 hl).1 x h;omega
theorem TC{l:List Int}{n:Int}(hl:Srt l):Srt (I6 l n):=by
 unfold I6;split
 ·exact hl
 ·rename_i hn;have e:=List.takeWhile_append_dropWhile (p:=fun x=>decide (x<n)) (l:=l)
  have h1:∀x∈l.takeWhile (fun x=>decide (x<n)),x<n:=fun x h=>tkW x h
  have h2:∀x∈l.dropWhile (fun x=>decide (x<n)),n<x:=fun x h=>by
   have:=Az5 hl x h;have h3:x≠n:=fun e'=>hn (e'▸e▸List.mem_append_right _ h)
   omega
  refine List.pairwise_append.2 ⟨hl.sublist (List.takeWhile_sublist _),List.pairwise_cons.2 ⟨h2,hl.sublist (List.dropWhile_sublist _)⟩,fun a ha b hb=>?_⟩
  have:=h1 a ha;rcases List.mem_cons.1 hb with rfl | hb
  ·exact this
  ·have:=h2 b hb;omega
theorem GG{b:List Int}{x:Int}:∀{a:List Int},x∈Iw a b↔x∈a∨x∈b:=by
 induction b with
 |nil=>intro a;simp[Iw]
 |cons y b ih=>
  intro a;have:=@ih (I6 a y);unfold Iw at this ⊢;rw[List.foldl_cons,this,TQ,List.mem_cons,or_assoc]
theorem QC:∀(b:List Int) {a:List Int},Srt a→Srt (Iw a b)
 |[],_,h=>h
 |y::b,a,h=>QC b (TC h)
theorem JW{set kill:List Int}{x:Int}:∀{gen:List Int},x∈Ih set gen kill↔x∈gen∨(x∈set∧x∉kill):=by
 induction set with
 |nil=>intro a;simp[Ih]
 |cons y b ih=>
  intro a;have:=@ih (if y∈kill then a else I6 a y)
  unfold Ih at this ⊢;rw[List.foldl_cons,this,List.mem_cons];by_cases hy:y∈kill
  ·rw[if_pos hy];constructor
   ·rintro(h | ⟨h,h2⟩)
    ·exact .inl h
    ·exact .inr ⟨.inr h,h2⟩
   ·rintro(h | ⟨h | h,h2⟩)
    ·exact .inl h
    ·subst h;exact absurd hy h2
    ·exact .inr ⟨h,h2⟩
  ·rw[if_neg hy,TQ];constructor
   ·rintro((h | h) | ⟨h,h2⟩)
    ·exact .inl h
    ·subst h;exact .inr ⟨.inl rfl,hy⟩
    ·exact .inr ⟨.inr h,h2⟩
   ·rintro(h | ⟨h | h,h2⟩)
    ·exact .inl (.inl h)
    ·exact .inl (.inr h)
    ·exact .inr ⟨h,h2⟩
theorem Ov{kill:List Int}:∀(set:List Int) {gen:List Int},Srt gen→Srt (Ih set gen kill)
 |[],_,h=>h
 |y::b,a,h=>by
  unfold Ih;rw[List.foldl_cons];refine Ov b ?_
  split
  ·exact h
  ·exact TC h
end Go.Abs.Z

namespace Go.Abs.Z
abbrev W:=List (BitVec 64)
def bit(w:W)(v:Nat):Bool:=(w.getD (v / 64) 0#64).getLsbD (v % 64)
def jn(a b:W):W:=List.zipWith (fun x y=>x ||| y) a b
def ps(b k g:W):W:=List.zipWith (fun x y=>x ||| y) (List.zipWith (fun x y=>x &&& ~~~y) b k) g
def zW:W:=List.replicate 16 0#64
def sb(w:W)(n:Nat):W:=w.set (n / 64) (w.getD (n / 64) 0#64 ||| 1#64 <<< (n % 64))
theorem SI(v:Nat):bit zW v=false:=by
 unfold bit zW;rw[List.getD_eq_getElem?_getD,List.getElem?_replicate]
 split<;>simp
theorem wB{a b:W}(ha:a.length=16)(hb:b.length=16)(h:∀v,v<1024→bit a v=bit b v):a=b:=by
 apply List.ext_getElem (by omega)
 intro i h1 h2;apply BitVec.eq_of_getLsbD_eq;intro j hj;have:=h (i * 64+j) (by omega)
 unfold bit at this;rw[show(i * 64+j) / 64=i from by omega,show(i * 64+j) % 64=j from by omega,List.getD_eq_getElem?_getD,List.getD_eq_getElem?_getD,List.getElem?_eq_getElem h1,List.getElem?_eq_getElem h2] at this
 exact this
theorem YT{a b:W}(ha:a.length=16)(hb:b.length=16):(jn a b).length=16:=by simp[jn,ha,hb]
theorem OB{a b c:W}(ha:a.length=16)(hb:b.length=16)(hc:c.length=16):(ps a b c).length=16:=by simp[ps,ha,hb,hc]
theorem Hz:zW.length=16:=by simp[zW]
theorem gW{a:W}{n:Nat}(ha:a.length=16):(sb a n).length=16:=by simp[sb,ha]
theorem vO{a b:W}(ha:a.length=16)(hb:b.length=16){v:Nat}(hv:v<1024):bit (jn a b) v=(bit a v||bit b v):=by
 have h:v / 64<16:=by omega
 unfold bit jn;rw[List.getD_eq_getElem?_getD,List.getD_eq_getElem?_getD,List.getD_eq_getElem?_getD,List.getElem?_zipWith,List.getElem?_eq_getElem (l:=a) (by omega),List.getElem?_eq_getElem (l:=b) (by omega)]
 simp
theorem VG{b k g:W}(hb:b.length=16)(hk:k.length=16)(hg:g.length=16){v:Nat}(hv:v<1024):bit (ps b k g) v=(bit b v&&!bit k v||bit g v):=by
 have h:v / 64<16:=by omega
 have h2:v % 64<64:=by omega
 unfold bit ps;rw[List.getD_eq_getElem?_getD,List.getD_eq_getElem?_getD,List.getD_eq_getElem?_getD,List.getD_eq_getElem?_getD,List.getElem?_zipWith,List.getElem?_zipWith,List.getElem?_eq_getElem (l:=b) (by omega),List.getElem?_eq_getElem (l:=k) (by omega),List.getElem?_eq_getElem (l:=g) (by omega)]
 simp[h2]
theorem vN{w:W}{n v:Nat}(hw:w.length=16)(hn:n<1024)(hv:v<1024):bit (sb w n) v=(bit w v||decide (v=n)):=by
 have h:v / 64<16:=by omega
 have h1:n / 64<16:=by omega
 have h2:v % 64<64:=by omega
 unfold bit sb;by_cases he:v / 64=n / 64
 ·rw[he,List.getD_eq_getElem?_getD,List.getElem?_set_self (by omega)]
  simp only[Option.getD_some,BitVec.getLsbD_or,BitVec.getLsbD_shiftLeft,h2,decide_true,Bool.true_and];congr 1;by_cases hvn:v=n
  ·subst hvn;simp
  ·have hne:v % 64≠n % 64:=by omega
   by_cases hlt:v % 64<n % 64
   ·simp[hlt,hvn]
   ·have:v % 64 - n % 64≠0:=by omega
    simp[hlt,hvn,this]
 ·have hvn:v≠n:=fun e=>he (by rw[e])
  rw[List.getD_eq_getElem?_getD,List.getElem?_set_ne (by omega),←List.getD_eq_getElem?_getD]
  simp[hvn]
def ofL(l:List Int):W:=l.foldl (fun w n=>sb w n.toNat) zW
theorem RS:∀(l:List Int) {w:W},w.length=16→(∀x∈l,0≤x∧x<1024)→(l.foldl (fun w n=>sb w n.toNat) w).length=16∧∀v,v<1024→(bit (l.foldl (fun w n=>sb w n.toNat) w) v=(bit w v||decide ((v:Int)∈l)))
 |[],w,hw,_=>⟨hw,fun v _=>by simp⟩
 |x::l,w,hw,h=>by
  obtain⟨h1,h2⟩:=RS l (w:=sb w x.toNat) (gW hw) fun y hy=>h y (List.mem_cons_of_mem _ hy)
  refine⟨h1,fun v hv=>?_⟩
  obtain⟨h3,h4⟩:=h x (List.mem_cons_self ..);rw[List.foldl_cons,h2 v hv,vN hw (by omega) hv,Bool.or_assoc]
  congr 1;have e:(v=x.toNat)↔(v:Int)=x:=by omega
  by_cases hx:(v:Int)=x<;>simp[e,hx]
theorem Ql{l:List Int}(h:∀x∈l,0≤x∧x<1024):(ofL l).length=16:=(RS l Hz h).1
theorem aN{l:List Int}(h:∀x∈l,0≤x∧x<1024){v:Nat}(hv:v<1024):bit (ofL l) v=decide ((v:Int)∈l):=by
 have:=(RS l Hz h).2 v hv;rw[SI,Bool.false_or] at this;exact this
structure Sy where
 n:Nat
 src:Nat→List Nat
 gn:Nat→W
 kl:Nat→W
 hsrc:∀i j,i<n→j∈src i→j<n
 hgn:∀i,(gn i).length=16
 hkl:∀i,(kl i).length=16
def CG{α:Type}(f:Nat→α)(i:Nat)(x:α):Nat→α:=fun j=>if j=i then x else f j
def Sy.inn(y:Sy)(S T:Nat→W)(i:Nat):W:=(y.src i).foldl (fun w j=>jn w (T j)) (S i)
structure St where
 S:Nat→W
 T:Nat→W
 c:Bool
def Sy.step(y:Sy)(s:St)(i:Nat):St:=
 let w:=y.inn s.S s.T i
 let x:=ps w (y.kl i) (y.gn i)
 if x=s.T i then⟨CG s.S i w,s.T,s.c⟩ else⟨CG s.S i w,CG s.T i x,true⟩
def Sy.rnd(y:Sy)(S T:Nat→W):St:=(List.range y.n).foldl y.step ⟨S,T,false⟩
section
variable(y:Sy)
def Sy.sr(i j:Nat):Prop:=i<y.n∧j∈y.src i
def Sy.gen(i v:Nat):Prop:=i<y.n∧v<1024∧bit (y.gn i) v=true
def Sy.kill(i v:Nat):Prop:=bit (y.kl i) v=true
def Sy.R:=Rch y.sr y.gen y.kill
def Sy.In:=Inn y.sr y.gen y.kill
structure Gud(S T:Nat→W):Prop where
 s16:∀i,(S i).length=16
 t16:∀i,(T i).length=16
 sI:∀i v,i<y.n→v<1024→bit (S i) v=true→y.In i v
 tR:∀i v,i<y.n→v<1024→bit (T i) v=true→y.R i v
 tp:∀i v,i<y.n→v<1024→bit (T i) v=true→bit (ps (S i) (y.kl i) (y.gn i)) v=true
variable{y}
theorem RU(T:Nat→W)(ht:∀i,(T i).length=16):∀(l:List Nat) (w:W),w.length=16→(l.foldl (fun w j=>jn w (T j)) w).length=16∧∀v,v<1024→(bit (l.foldl (fun w j=>jn w (T j)) w) v=true↔bit w v=true∨∃j∈l,bit (T j) v=true)
 |[],w,hw=>⟨hw,fun v _=>by simp⟩
 |x::l,w,hw=>by
  obtain⟨h1,h2⟩:=RU T ht l (jn w (T x)) (YT hw (ht x));refine⟨h1,fun v hv=>?_⟩
  rw[List.foldl_cons,h2 v hv,vO hw (ht x) hv,Bool.or_eq_true,or_assoc];simp
theorem Gud.init:Gud y (fun _=>zW) (fun _=>zW):=
 ⟨fun _=>Hz,fun _=>Hz,(fun i v _ _ h=>by rw[SI] at h;cases h),(fun i v _ _ h=>by rw[SI] at h;cases h),(fun i v _ _ h=>by rw[SI] at h;cases h)⟩
theorem Gud.NU{S T:Nat→W}(h:Gud y S T)(i:Nat):(y.inn S T i).length=16:=(RU T h.t16 _ _ (h.s16 i)).1
theorem Gud.Vr{S T:Nat→W}(h:Gud y S T)(i:Nat){v:Nat}(hv:v<1024):bit (y.inn S T i) v=true↔bit (S i) v=true∨∃j∈y.src i,bit (T j) v=true:=(RU T h.t16 _ _ (h.s16 i)).2 v hv
theorem Gud.uf{S T:Nat→W}(h:Gud y S T)(i:Nat){v:Nat}(hv:v<1024):bit (ps (S i) (y.kl i) (y.gn i)) v=true↔(bit (S i) v=true∧bit (y.kl i) v=false)∨bit (y.gn i) v=true:=by
 rw[VG (h.s16 i) (y.hkl i) (y.hgn i) hv];simp
theorem Gud.put{S T:Nat→W}(h:Gud y S T){i:Nat}(hi:i<y.n):Gud y (CG S i (y.inn S T i)) T:=by
 have hb:=fun v (hv:v<1024)=>h.Vr i hv
 refine⟨fun j=>?_,h.t16,fun j v hj hv=>?_,h.tR,fun j v hj hv ht=>?_⟩
 ·unfold CG;split
  ·exact h.NU i
  ·exact h.s16 j
 ·unfold CG;split
  ·rename_i he;subst he;intro hb';rcases(hb v hv).1 hb' with h1 | ⟨k,hk,h1⟩
   ·exact h.sI j v hj hv h1
   ·exact⟨k,⟨hj,hk⟩,h.tR k v (y.hsrc j k hj hk) hv h1⟩
  ·exact h.sI j v hj hv
 ·have:=h.tp j v hj hv ht;unfold CG;split
  ·rename_i he;subst he;rw[VG (h.NU j) (y.hkl j) (y.hgn j) hv];rw[VG (h.s16 j) (y.hkl j) (y.hgn j) hv] at this;simp only[Bool.or_eq_true,Bool.and_eq_true,Bool.not_eq_true'] at this ⊢;rcases this with⟨h1,h2⟩ | h1
   ·exact .inl ⟨(hb v hv).2 (.inl h1),h2⟩
   ·exact .inr h1
  ·exact this
theorem Gud.pass{S T:Nat→W}(h:Gud y S T){i:Nat}(hi:i<y.n):Gud y S (CG T i (ps (S i) (y.kl i) (y.gn i))):=by
 refine⟨h.s16,fun j=>?_,h.sI,fun j v hj hv=>?_,fun j v hj hv=>?_⟩
 ·unfold CG;split
  ·exact OB (h.s16 i) (y.hkl i) (y.hgn i)
  ·exact h.t16 j
 ·unfold CG;split
  ·rename_i he;subst he;intro hb;rcases(h.uf j hv).1 hb with⟨h1,h2⟩ | h1
   ·exact Ml.2 (.inr ⟨h.sI j v hj hv h1,by simp[Sy.kill,h2]⟩)
   ·exact Ml.2 (.inl ⟨hj,hv,h1⟩)
  ·exact h.tR j v hj hv
 ·unfold CG;split
  ·rename_i he;subst he;exact id
  ·exact h.tp j v hj hv
theorem Gud.step{s:St}(h:Gud y s.S s.T){i:Nat}(hi:i<y.n):Gud y (y.step s i).S (y.step s i).T:=by
 have h1:=h.put hi;have e:CG s.S i (y.inn s.S s.T i) i=y.inn s.S s.T i:=by simp[CG]
 unfold Sy.step;dsimp only;split
 ·exact h1
 ·have:=h1.pass hi;rw[e] at this;exact this
theorem Gud.fold:∀(l:List Nat) (s:St),(∀i∈l,i<y.n)→Gud y s.S s.T→Gud y (l.foldl y.step s).S (l.foldl y.step s).T
 |[],_,_,h=>h
 |i::l,s,hl,h=>Gud.fold l (y.step s i) (fun j hj=>hl j (List.mem_cons_of_mem _ hj)) (h.step (hl i (List.mem_cons_self ..)))
theorem Gud.rnd{S T:Nat→W}(h:Gud y S T):Gud y (y.rnd S T).S (y.rnd S T).T:=Gud.fold _ _ (fun i hi=>List.mem_range.1 hi) h
theorem RZ:∀(l:List Nat) (s:St),(∀i∈l,i<y.n)→l.Nodup→(l.foldl y.step s).c=false→s.c=false∧(l.foldl y.step s).T=s.T∧(∀i∈l,(l.foldl y.step s).S i=y.inn s.S s.T i∧ps (y.inn s.S s.T i) (y.kl i) (y.gn i)=s.T i)∧(∀i,i∉l→(l.foldl y.step s).S i=s.S i)
 |[],s,_,_,h=>⟨h,rfl,(fun i h=>by cases h),fun i _=>rfl⟩
 |i::l,s,hl,hn,h=>by
  obtain⟨hni,hn⟩:=List.nodup_cons.1 hn;obtain⟨h1,h2,h3,h4⟩:=RZ l (y.step s i) (fun j hj=>hl j (List.mem_cons_of_mem _ hj)) hn h
  have hst:ps (y.inn s.S s.T i) (y.kl i) (y.gn i)=s.T i∧y.step s i=⟨CG s.S i (y.inn s.S s.T i),s.T,s.c⟩:=by
   unfold Sy.step at h1 ⊢;dsimp only at h1 ⊢;split
   ·rename_i e;exact⟨e,rfl⟩
   ·rename_i e;rw[if_neg e] at h1;cases h1
  obtain⟨he,hst⟩:=hst;rw[List.foldl_cons];rw[hst] at h1 h2 h3 h4 ⊢;dsimp only at h1 h2 h3 h4;refine⟨h1,h2,fun j hj=>?_,fun j hj=>?_⟩
  ·rcases List.mem_cons.1 hj with rfl | hj
   ·exact⟨by rw[h4 j hni];simp[CG],he⟩
   ·have hji:j≠i:=fun e=>hni (e▸hj)
    have:y.inn (CG s.S i (y.inn s.S s.T i)) s.T j=y.inn s.S s.T j:=by unfold Sy.inn;simp[CG,hji]
    have h5:=h3 j hj;rw[this] at h5;exact h5
  ·have hji:j≠i:=fun e=>hj (e▸List.mem_cons_self ..)
   rw[h4 j fun h=>hj (List.mem_cons_of_mem _ h)]
   simp[CG,hji]
theorem Gud.still{S T:Nat→W}(h:Gud y S T)(hc:(y.rnd S T).c=false):(∀i v,i<y.n→v<1024→(bit ((y.rnd S T).S i) v=true↔y.In i v))∧∀i v,i<y.n→v<1024→(bit ((y.rnd S T).T i) v=true↔y.R i v):=by
 have hg:=h.rnd;obtain⟨_,h2,h3,_⟩:=RZ (List.range y.n) ⟨S,T,false⟩ (fun i hi=>List.mem_range.1 hi) List.nodup_range hc
 change (y.rnd S T).T=T at h2;have h3:∀i,i<y.n→(y.rnd S T).S i=y.inn S T i∧ps (y.inn S T i) (y.kl i) (y.gn i)=T i:=fun i hi=>h3 i (List.mem_range.2 hi)
 have hps:∀i v,i<y.n→v<1024→(bit (T i) v=true↔(bit (y.inn S T i) v=true∧bit (y.kl i) v=false)∨bit (y.gn i) v=true):=fun i v hi hv=>by
  conv=>lhs;rw[←(h3 i hi).2]
  rw[VG (h.NU i) (y.hkl i) (y.hgn i) hv];simp
 have hR:∀i v,y.R i v→i<y.n→bit (T i) v=true:=by
  intro i v hr;refine TJ (T:=fun i v=>i<y.n→bit (T i) v=true) ?_ ?_ hr
  ·rintro i v ⟨hi,hv,hg⟩ _
   exact(hps i v hi hv).2 (.inr hg)
  ·rintro i j v ⟨hi,hj⟩ ht hk _
   have hT:=ht (y.hsrc i j hi hj)
   have hv:v<1024:=by
    refine Classical.byContradiction fun hc=>?_
    unfold bit at hT;rw[List.getD_eq_getElem?_getD,List.getElem?_eq_none (by rw[h.t16];omega)] at hT
    simp at hT
   exact(hps i v hi hv).2 (.inl ⟨(h.Vr i hv).2 (.inr ⟨j,hj,hT⟩),by simpa [Sy.kill] using hk⟩)
 refine⟨fun i v hi hv=>⟨hg.sI i v hi hv,?_⟩,fun i v hi hv=>⟨hg.tR i v hi hv,fun hr=>by rw[h2];exact hR i v hr hi⟩⟩
 rintro⟨j,⟨_,hj⟩,hr⟩
 rw[(h3 i hi).1,h.Vr i hv];exact .inr ⟨j,hj,hR j v hr (y.hsrc i j hi hj)⟩
def cnt(w:W):Nat:=((List.range 1024).filter (bit w)).length
def tot(T:Nat→W)(n:Nat):Nat:=((List.range n).map fun i=>cnt (T i)).sum
theorem vD(w:W):cnt w≤1024:=by
 have:=List.length_filter_le (bit w) (List.range 1024);simpa [cnt] using this
theorem cnt_lt{a b:W}(ha:a.length=16)(hb:b.length=16)(h:∀v,v<1024→bit a v=true→bit b v=true)(hne:b≠a):cnt a<cnt b:=by
 have hex:∃v,v<1024∧bit b v=true∧bit a v=false:=by
  refine Classical.byContradiction fun hc=>hne (wB hb ha fun v hv=>?_)
  cases h1:bit a v with
  |true=>exact h v hv h1
  |false=>
   cases h2:bit b v with
   |false=>rfl
   |true=>exact absurd ⟨v,hv,h2,h1⟩ hc
 obtain⟨v,hv,h1,h2⟩:=hex
 have e:(List.range 1024).filter (bit a)=((List.range 1024).filter (bit b)).filter (bit a):=by
  rw[List.filter_filter];refine List.filter_congr fun x hx=>?_
  have:=h x (List.mem_range.1 hx);cases ha:bit a x<;>simp_all
 unfold cnt;rw[e];exact List.length_filter_lt_length_iff_exists.2 ⟨v,List.mem_filter.2 ⟨List.mem_range.2 hv,h1⟩,by simp[h2]⟩
theorem mY{T:Nat→W}{n i:Nat}{x:W}(hi:i<n)(h:cnt (T i) < cnt x):tot T n<tot (CG T i x) n:=by
 unfold tot
 induction n with
 |zero=>omega
 |succ n ih=>
  rw[List.range_succ,List.map_append,List.map_append,List.sum_append,List.sum_append];simp only[List.map_cons,List.map_nil,List.sum_cons,List.sum_nil];by_cases he:i=n
  ·subst he
   have:((List.range i).map fun j=>cnt (CG T i x j))=(List.range i).map fun j=>cnt (T j):=List.map_congr_left fun j hj=>by
    have:=List.mem_range.1 hj;simp[CG,show j≠i from by omega]
   rw[this];simp[CG];omega
  ·have:=ih (by omega)
   simp only[CG,show ¬n=i from fun e=>he e.symm,if_false] at this ⊢
   omega
theorem sK(T:Nat→W)(n:Nat):tot T n≤1024 * n:=by
 unfold tot
 induction n with
 |zero=>simp
 |succ n ih=>
  rw[List.range_succ,List.map_append,List.sum_append];simp only[List.map_cons,List.map_nil,List.sum_cons,List.sum_nil];have:=vD (T n);omega
theorem fG{s:St}(h:Gud y s.S s.T){i:Nat}(hi:i<y.n):(y.step s i).c=s.c∧tot (y.step s i).T y.n=tot s.T y.n∨(y.step s i).c=true∧tot s.T y.n<tot (y.step s i).T y.n:=by
 unfold Sy.step;dsimp only;split
 ·exact .inl ⟨rfl,rfl⟩
 ·rename_i hne;refine .inr ⟨rfl,mY hi (cnt_lt (h.t16 i) (OB (h.NU i) (y.hkl i) (y.hgn i)) (fun v hv ht=>?_) hne)⟩
  have:=(h.put hi).tp i v hi hv ht;simpa [CG] using this
theorem XI:∀(l:List Nat) (s:St),(∀i∈l,i<y.n)→Gud y s.S s.T→(l.foldl y.step s).c=s.c∧tot (l.foldl y.step s).T y.n=tot s.T y.n∨(l.foldl y.step s).c=true∧tot s.T y.n<tot (l.foldl y.step s).T y.n
 |[],_,_,_=>.inl ⟨rfl,rfl⟩
 |i::l,s,hl,h=>by
  have hi:=hl i (List.mem_cons_self ..);have h1:=fG h hi;have h2:=XI l (y.step s i) (fun j hj=>hl j (List.mem_cons_of_mem _ hj)) (h.step hi)
  rw[List.foldl_cons];rcases h1 with⟨a,b⟩ | ⟨a,b⟩<;>rcases h2 with⟨c,d⟩ | ⟨c,d⟩
  ·exact .inl ⟨c.trans a,d.trans b⟩
  ·exact .inr ⟨c,by omega⟩
  ·exact .inr ⟨c.trans a,by omega⟩
  ·exact .inr ⟨c,by omega⟩
theorem pq{S T:Nat→W}(h:Gud y S T)(hc:(y.rnd S T).c=true):tot T y.n<tot (y.rnd S T).T y.n:=by
 rcases XI (List.range y.n) ⟨S,T,false⟩ (fun i hi=>List.mem_range.1 hi) h with⟨h1,_⟩ | ⟨_,h2⟩
 ·have:(y.rnd S T).c=false:=h1;rw[this] at hc;cases hc
 ·exact h2
end
end Go.Abs.Z

namespace Go.Abs.Z
open Go.Proofs Go.RowKit
def aX:List PV→Option W
 |[]=>some []
 |v::l=>match v,aX l with
  |.int .u64 n,some r=>if 0≤n∧n<18446744073709551616 then some (BitVec.ofInt 64 n::r) else none
  |_,_=>none
def wOf(σ:Sto)(v:PV):Option W:=match v with
 |.aptr id g size i off=>match σ[id]? with
  |some cs=>match Dq cs g 16 with
   |some es=>match es[i]? with
    |some (.agg l)=>match aX l with
     |some w=>if size=16∧off=0∧w.length=16 then some w else none
     |none=>none
    |_=>none
   |none=>none
  |none=>none
 |_=>none
def FP(σ:Sto)(l:List Int):PV×Sto:=match l with
 |[]=>(.nils,σ)
 |_=>(.arr σ.length (l.length - 1) 0 l.length 1,σ++[[.arrv (l.length - 1) 1 (l.map (PV.int .i64))]])
def Q0:GM:=fun _ args σ=>match args with
 |[v]=>(wOf σ v).map fun w=>FP σ (lst (bit w))
 |_=>none
end Go.Abs.Z

namespace Go.Abs.Z
open Go.Proofs Go.RowKit
set_option linter.unusedVariables false
theorem Nl{op:BinOp}{k k':IntKind}{a b:Int}{r:PV}(h:J8 op (.int k a) (.int k' b)=some r):AJ (.bin op 0) [.int k a,.int k' b]=some [some r]:=by
 simp only[AJ,eQ,if_true,h];rfl
theorem wG(X m:Nat)(hm:m<64):AJ (.bin .shr 0) [.int .u64 (X:Nat),.int .i64 (m:Nat)]=some [some (.int .u64 ((X / 2 ^ m:Nat):Int))]:=by
 have h1:Go.binOp .shr 0 (.int .u64 (X:Nat)) (.int .i64 (m:Nat))=.pure (.int .u64 ((X / 2 ^ m:Nat):Int)):=by
  show Op.shift .shr .u64 (X:Nat) .i64 (m:Nat)=_;unfold Op.shift;have:¬((m:Nat):Int) < 0:=by omega
  rw[if_neg this];simp only[Bz];have hb:IntKind.u64.bits=64:=rfl;rw[hb,Nat.min_eq_left (by omega)]
  show Sem.pure (Value.int IntKind.u64 (Int.fdiv (X:Nat) (2 ^ m)))=_;congr 2;rw[Int.fdiv_eq_ediv_of_nonneg _ (by exact_mod_cast Fs _)]
  exact_mod_cast rfl
 refine Nl ?_
 simp only[J8,JD,if_true,h1]
theorem gZ(n d:Nat)(hn:n<4000000000)(hd:0<d):AJ (.bin .quo 0) [.int .i64 (n:Nat),.int .i64 (d:Nat)]=some [some (.int .i64 ((n / d:Nat):Int))]:=by
 have h1:Go.binOp .quo 0 (.int .i64 (n:Nat)) (.int .i64 (d:Nat))=.pure (.int .i64 ((n / d:Nat):Int)):=by
  show Op.intDiv .quo .i64 (n:Nat) (d:Nat)=_;unfold Op.intDiv;rw[if_neg (by omega)]
  show Sem.pure (Value.int IntKind.i64 (IntKind.i64.wrap (Int.tdiv (n:Nat) (d:Nat))))=_
  have e:IntKind.i64.wrap (Int.tdiv (n:Nat) (d:Nat))=((n / d:Nat):Int):=by
   have hle:=Nat.div_le_self n d;show IntKind.i64.wrap ((n / d:Nat):Int)=_;generalize n / d=q at hle;rw[IntKind.wrap_i64];omega
  rw[e]
 refine Nl ?_
 simp only[J8,JD,X0,Bool.false_eq_true,if_false,if_true,h1]
theorem gY(n d:Nat)(hd:0<d):AJ (.bin .rem 0) [.int .i64 (n:Nat),.int .i64 (d:Nat)]=some [some (.int .i64 ((n % d:Nat):Int))]:=by
 have h1:Go.binOp .rem 0 (.int .i64 (n:Nat)) (.int .i64 (d:Nat))=.pure (.int .i64 ((n % d:Nat):Int)):=by
  show Op.intDiv .rem .i64 (n:Nat) (d:Nat)=_;unfold Op.intDiv;rw[if_neg (by omega)]
  rfl
 refine Nl ?_
 simp only[J8,JD,X0,Bool.false_eq_true,if_false,if_true,h1]
theorem bvW(X:BitVec 64):BitVec.ofInt 64 (X.toNat:Int)=X:=by
 apply BitVec.eq_of_toNat_eq;rw[BitVec.toNat_ofInt];have:=X.isLt;omega
theorem wz(X:BitVec 64):IntKind.u64.wrap (X.toNat:Int)=X.toNat:=by
 have:=X.isLt;rw[IntKind.wrap_u64];omega
theorem Yl{op:BinOp}{r:BitVec 64→BitVec 64→BitVec 64}(hop:(op=.or∧r=fun x y=>x ||| y)∨(op=.and∧r=fun x y=>x &&& y)∨(op=.andNot∧r=fun x y=>x &&& ~~~y))(X Y:BitVec 64):
  AJ (.bin op 0) [.int .u64 (X.toNat:Int),.int .u64 (Y.toNat:Int)]=some [some (.int .u64 ((r X Y).toNat:Int))]:=by
 have key:∀(Z:BitVec 64),(Sem.pure (Value.int IntKind.u64 (IntKind.u64.wrap (Z.toNat:Int))))=Sem.pure (Value.int IntKind.u64 (Z.toNat:Int)):=fun Z=>by rw[wz]
 rcases hop with⟨rfl,rfl⟩ | ⟨rfl,rfl⟩ | ⟨rfl,rfl⟩
 ·have h1:Go.binOp .or 0 (.int .u64 (X.toNat:Int)) (.int .u64 (Y.toNat:Int))=.pure (.int .u64 ((X ||| Y).toNat:Int)):=by
   show Sem.pure (Value.int IntKind.u64 (IntKind.u64.wrap ((BitVec.ofInt 64 (X.toNat:Int) ||| BitVec.ofInt 64 (Y.toNat:Int)).toNat:Int)))=_
   rw[bvW,bvW];exact key _
  refine Nl ?_
  simp only[J8,JD,X0,Bool.false_eq_true,if_false,if_true,h1]
 ·have h1:Go.binOp .and 0 (.int .u64 (X.toNat:Int)) (.int .u64 (Y.toNat:Int))=.pure (.int .u64 ((X &&& Y).toNat:Int)):=by
   show Sem.pure (Value.int IntKind.u64 (IntKind.u64.wrap ((BitVec.ofInt 64 (X.toNat:Int) &&& BitVec.ofInt 64 (Y.toNat:Int)).toNat:Int)))=_;rw[bvW,bvW];exact key _
  refine Nl ?_
  simp only[J8,JD,X0,Bool.false_eq_true,if_false,if_true,h1]
 ·have h1:Go.binOp .andNot 0 (.int .u64 (X.toNat:Int)) (.int .u64 (Y.toNat:Int))=.pure (.int .u64 ((X &&& ~~~Y).toNat:Int)):=by
   show Sem.pure (Value.int IntKind.u64 (IntKind.u64.wrap ((BitVec.ofInt 64 (X.toNat:Int) &&& ~~~ BitVec.ofInt 64 (Y.toNat:Int)).toNat:Int)))=_;rw[bvW,bvW];exact key _
  refine Nl ?_
  simp only[J8,JD,X0,Bool.false_eq_true,if_false,if_true,h1]
theorem tH(Y:Nat)(hY:Y<18446744073709551616):AJ (.bin .and 0) [.int .u64 (Y:Nat),.int .u64 1]=some [some (.int .u64 ((Y % 2:Nat):Int))]:=by
 have h:=Yl (op:=.and) (r:=fun x y=>x &&& y) (.inr (.inl ⟨rfl,rfl⟩)) (BitVec.ofNat 64 Y) 1#64
 have e1:(BitVec.ofNat 64 Y).toNat=Y:=by rw[BitVec.toNat_ofNat];omega
 have e2:(1#64:BitVec 64).toNat=1:=rfl;rw[BitVec.toNat_and,e1,e2,Nat.and_one_is_mod] at h;exact h
theorem wH(X:BitVec 64)(m:Nat):decide (((X.toNat / 2 ^ m % 2:Nat):Int)=1)=X.getLsbD m:=by
 rw[BitVec.getLsbD,Nat.testBit_eq_decide_div_mod_eq];congr 1;exact propext (by omega)
end Go.Abs.Z

namespace Go.Abs.Z
noncomputable section
open Go.Proofs Go.RowKit
set_option linter.unusedVariables false
def SH:Code:=Tryz.f49.body.getD .skip
def y0:=SH.s1
def y1:=SH.s2.s1
def y2:=SH.s2.s2.s1.s1
def yL:=SH.s2.s2.s1.s2.b1.l1
def yZ:=SH.s2.s2.s2
def y3:=yL.s1
def yK:=yL.s2.s1
def y4:=yL.s2.s2.s1.b1.s1
def y5:=yL.s2.s2.s1.b1.s2.s1
def y6:=yL.s2.s2.s1.b1.s2.s2
def y7:=yL.s2.s2.s2
theorem sqp{σ:Sto}{k:PK}{vs:List PV}{rs:List (Option PV)}(h:AJ k vs=some rs)(n:Nat):sem pur (R15 n) (.p k) vs σ=some (rs,σ):=by
 show(AJ k vs).map (·,σ)=_;rw[h];rfl
theorem sqr{σ:Sto}{k:RK}{vs:List PV}{rs:List (Option PV)}(h:BR k vs σ=some rs)(n:Nat):sem pur (R15 n) (.r k) vs σ=some (rs,σ):=by
 show(BR k vs σ).map (·,σ)=_;rw[h];rfl
theorem AQU(a b:Int):(a==b)=decide (a=b):=by by_cases h:a=b<;>simp[h]
theorem eqD(k:IntKind)(a b:Int):AJ (.bin .eql 0) [.int k a,.int k b]=some [some (.bool (decide (a=b)))]:=by
 rw[←AQU];cases k<;>rfl
theorem l7:SH=.seq y0 (.seq y1 (.seq (.seq y2 (.block 0 (.loop yL))) yZ)):=by kernel_rfl
theorem wy:yL=.seq y3 (.seq yK (.seq (.block 1 (.seq y4 (.seq y5 y6))) y7)):=by kernel_rfl
def acL(c:Code):Dc:=(comp Tryz.prog pur IG c).getD .skip
theorem ky0:comp Tryz.prog pur IG y0=some (acL y0):=by kernel_rfl
theorem ky1:comp Tryz.prog pur IG y1=some (acL y1):=by kernel_rfl
theorem ky2:comp Tryz.prog pur IG y2=some (acL y2):=by kernel_rfl
theorem kyZ:comp Tryz.prog pur IG yZ=some (acL yZ):=by kernel_rfl
theorem ky3:comp Tryz.prog pur IG y3=some (acL y3):=by kernel_rfl
theorem kyK:comp Tryz.prog pur IG yK=some (acL yK):=by kernel_rfl
theorem ky4:comp Tryz.prog pur IG y4=some (acL y4):=by kernel_rfl
theorem ky5:comp Tryz.prog pur IG y5=some (acL y5):=by kernel_rfl
theorem ky6:comp Tryz.prog pur IG y6=some (acL y6):=by kernel_rfl
theorem ky7:comp Tryz.prog pur IG y7=some (acL y7):=by kernel_rfl
theorem AvQ:([y0,y1,y2,yZ,y3,yK,y4,y5,y6,y7].all fun c=>Ei 25 (acL c))=true:=by kernel_rfl
theorem OE{c:Code}(h:c∈[y0,y1,y2,yZ,y3,yK,y4,y5,y6,y7]):Ei 25 (acL c)=true:=Ao.1 AvQ c h
abbrev frL(v out:PV)(n:Nat):FF:=[(0,some v),(3,some out),(5,some (.int .i64 (n:Nat)))]
def Lp(out:PV):Prop:=out=.nils∨∃i g l,out=.arr i g 0 l 1
section
variable{cx:Cx}{n:Nat}{ff0:FF}{σ:Sto}{Q:Bt→FF→Sto→Prop}{a b c d e:Nat}{out:PV}{j:Nat}
abbrev vA(a b c d e:Nat):PV:=.aptr a b c d e
theorem w0(hx:Dp cx IG)(hs:Sub [(0,some (vA a b c d e))] ff0)(hq:∀ff1,Sub [(0,some (vA a b c d e))] ff1→Q .normal ff1 σ):HT Tryz.prog cx 25 n y0 ff0 σ Q:=
 HT.pk (R:=R15) (fun _=>Ca) hx Tryz.Cu.mixed ky0 (OE (by simp)) [0] [] (by kernel_rfl) hs hq
theorem w1(hx:Dp cx IG)(hs:Sub [(0,some (vA a b c d e))] ff0)(hq:∀ff1,Sub [(0,some (vA a b c d e)),(3,some .nils)] ff1→Q .normal ff1 σ):HT Tryz.prog cx 25 n y1 ff0 σ Q:=
 HT.pk (R:=R15) (fun _=>Ca) hx Tryz.Cu.mixed ky1 (OE (by simp)) [0,3] [] (by kernel_rfl) hs hq
theorem w2(hx:Dp cx IG)(hs:Sub [(0,some (vA a b c d e)),(3,some .nils)] ff0)(hq:∀ff1,Sub (frL (vA a b c d e) .nils 0) ff1→Q .normal ff1 σ):HT Tryz.prog cx 25 n y2 ff0 σ Q:=
 HT.pk (R:=R15) (fun _=>Ca) hx Tryz.Cu.mixed ky2 (OE (by simp)) [0,3,5] [] (by kernel_rfl) hs hq
theorem wZ(ho:Lp out)(hx:Dp cx IG)(hs:Sub [(3,some out)] ff0)(hq:∀ff1,Sub [(2,some out)] ff1→Q .ret ff1 σ):HT Tryz.prog cx 25 n yZ ff0 σ Q:=by
 rcases ho with rfl | ⟨i,g,l,rfl⟩
 all_goals exact HT.pk (R:=R15) (fun _=>Ca) hx Tryz.Cu.mixed kyZ (OE (by simp)) [2] [] (by kernel_rfl) hs hq
theorem w3(hx:Dp cx IG)(hs:Sub (frL (vA a b c d e) out j) ff0)(hq:∀ff1,Sub ((6,some (.bool (decide (((j:Nat):Int) < 1024))))::frL (vA a b c d e) out j) ff1→Q .normal ff1 σ):HT Tryz.prog cx 25 n y3 ff0 σ Q:=
 HT.pk (R:=R15) (fun _=>Ca) hx Tryz.Cu.mixed ky3 (OE (by simp)) [6,0,3,5] [sq 0 (k:=.p (.bin .lss 0)) (vs:=[.int .i64 (j:Nat),.int .i64 1024]) (rs:=[some (.bool (decide (((j:Nat):Int) < 1024)))]) (σ:=σ) (σ':=σ) (fun n=>rfl)] (by kernel_rfl) hs hq
theorem wK{p:Bool}(hx:Dp cx IG)(hs:Sub ((6,some (.bool p))::frL (vA a b c d e) out j) ff0)(hq:∀ff1,Sub (frL (vA a b c d e) out j) ff1→Q (if p then .normal else .exit 0) ff1 σ):HT Tryz.prog cx 25 n yK ff0 σ Q:=by
 cases p with
 |true=>exact HT.pk (R:=R15) (fun _=>Ca) hx Tryz.Cu.mixed kyK (OE (by simp)) [0,3,5] [] (by kernel_rfl) hs hq
 |false=>exact HT.pk (R:=R15) (fun _=>Ca) hx Tryz.Cu.mixed kyK (OE (by simp)) [0,3,5] [] (by kernel_rfl) hs hq
theorem w4(hx:Dp cx IG)(hs:Sub (frL (vA a b c d e) out j) ff0)(hq:∀ff1,Sub ((4,some (.int .i64 (j:Nat)))::frL (vA a b c d e) out j) ff1→Q .normal ff1 σ):HT Tryz.prog cx 25 n y4 ff0 σ Q:=
 HT.pk (R:=R15) (fun _=>Ca) hx Tryz.Cu.mixed ky4 (OE (by simp)) [4,0,3,5] [] (by kernel_rfl) hs hq
theorem w5{X:BitVec 64}(hj:j<1024)(hx:Dp cx IG)(h1:BR (.ld 1 false) [.aptr a b c d (e+j / 64 * 1)] σ=some [some (.int .u64 (X.toNat:Int))])(hs:Sub ((4,some (.int .i64 (j:Nat)))::frL (vA a b c d e) out j) ff0)(hq:∀ff1,Sub ((18,some (.bool (X.getLsbD (j % 64))))::(4,some (.int .i64 (j:Nat)))::frL (vA a b c d e) out j) ff1→Q .normal ff1 σ):HT Tryz.prog cx 25 n y5 ff0 σ Q:=by
 have hX:=X.isLt;have hsh:=wG X.toNat (j % 64) (Nat.mod_lt _ (by decide))
 have han:=tH (X.toNat / 2 ^ (j % 64)) (Nat.lt_of_le_of_lt (Nat.div_le_self _ _) hX)
 have hix:AJ (.ixa 16 1 false) [vA a b c d e,.int .i64 ((j / 64:Nat):Int)]=some [some (.aptr a b c d (e+j / 64 * 1))]:=by
  simp only[AJ,ixV];rw[if_pos (by omega)]
  simp only[faV,Bz];rfl
 rw[←wH] at hq
 exact HT.pk (R:=R15) (fun _=>Ca) hx Tryz.Cu.mixed ky5 (OE (by simp)) [18,4,0,3,5] [
  sq 2 (k:=.p (.bin .quo 0)) (vs:=[.int .i64 (j:Nat),.int .i64 64]) (rs:=[some (.int .i64 ((j / 64:Nat):Int))]) (σ:=σ) (σ':=σ) (sqp (gZ j 64 (by omega) (by decide))),
  sq 1 (k:=.p (.ixa 16 1 false)) (vs:=[vA a b c d e,.int .i64 ((j / 64:Nat):Int)]) (rs:=[some (.aptr a b c d (e+j / 64 * 1))]) (σ:=σ) (σ':=σ) (sqp hix),
  sq 0 (k:=.r (.ld 1 false)) (vs:=[.aptr a b c d (e+j / 64 * 1)]) (rs:=[some (.int .u64 (X.toNat:Int))]) (σ:=σ) (σ':=σ) (sqr h1),
  sq 1 (k:=.p (.bin .rem 0)) (vs:=[.int .i64 (j:Nat),.int .i64 64]) (rs:=[some (.int .i64 ((j % 64:Nat):Int))]) (σ:=σ) (σ':=σ) (sqp (gY j 64 (by decide))),
  sq 0 (k:=.p (.bin .shr 0)) (vs:=[.int .u64 (X.toNat:Int),.int .i64 ((j % 64:Nat):Int)]) (rs:=[some (.int .u64 ((X.toNat / 2 ^ (j % 64):Nat):Int))]) (σ:=σ) (σ':=σ) (sqp hsh),
  sq 0 (k:=.p (.bin .and 0)) (vs:=[.int .u64 ((X.toNat / 2 ^ (j % 64):Nat):Int),.int .u64 1]) (rs:=[some (.int .u64 ((X.toNat / 2 ^ (j % 64) % 2:Nat):Int))]) (σ:=σ) (σ':=σ) (sqp han),
  sq 0 (k:=.p (.bin .eql 0)) (vs:=[.int .u64 ((X.toNat / 2 ^ (j % 64) % 2:Nat):Int),.int .u64 1]) (rs:=[some (.bool (decide (((X.toNat / 2 ^ (j % 64) % 2:Nat):Int)=1)))]) (σ:=σ) (σ':=σ) (sqp (eqD .u64 _ _))] (by kernel_rfl) hs hq
theorem w6F(hx:Dp cx IG)(hs:Sub ((18,some (.bool false))::(4,some (.int .i64 (j:Nat)))::frL (vA a b c d e) out j) ff0)(hq:∀ff1,Sub (frL (vA a b c d e) out j) ff1→Q .normal ff1 σ):HT Tryz.prog cx 25 n y6 ff0 σ Q:=
 HT.pk (R:=R15) (fun _=>Ca) hx Tryz.Cu.mixed ky6 (OE (by simp)) [0,3,5] [] (by kernel_rfl) hs hq
theorem w6T{i g l:Nat}{σ':Sto}(ho:Lp out)(hx:Dp cx IG)(h2:Cq pur GQ (.Fa 1) [out,.slice true 1 [.int .i64 (j:Nat)]] σ=some ([some (.arr i g 0 l 1)],σ'))(hs:Sub ((18,some (.bool true))::(4,some (.int .i64 (j:Nat)))::frL (vA a b c d e) out j) ff0)(hq:∀ff1,Sub (frL (vA a b c d e) (.arr i g 0 l 1) j) ff1→Q .normal ff1 σ'):HT Tryz.prog cx 25 n y6 ff0 σ Q:=by
 rcases ho with rfl | ⟨i',g',l',rfl⟩
 ·exact HT.pk (R:=R15) (fun _=>Ca) hx Tryz.Cu.mixed ky6 (OE (by simp)) [0,3,5] [sq 4 (k:=.w (.Fa 1)) (vs:=[.nils,.slice true 1 [.int .i64 (j:Nat)]]) (rs:=[some (.arr i g 0 l 1)]) (σ:=σ) (σ':=σ') (fun n=>h2)] (by kernel_rfl) hs hq
 ·exact HT.pk (R:=R15) (fun _=>Ca) hx Tryz.Cu.mixed ky6 (OE (by simp)) [0,3,5] [sq 4 (k:=.w (.Fa 1)) (vs:=[.arr i' g' 0 l' 1,.slice true 1 [.int .i64 (j:Nat)]]) (rs:=[some (.arr i g 0 l 1)]) (σ:=σ) (σ':=σ') (fun n=>h2)] (by kernel_rfl) hs hq
theorem w7(hj:j<1024)(hx:Dp cx IG)(hs:Sub (frL (vA a b c d e) out j) ff0)(hq:∀ff1,Sub (frL (vA a b c d e) out (j+1)) ff1→Q .normal ff1 σ):HT Tryz.prog cx 25 n y7 ff0 σ Q:=
 HT.pk (R:=R15) (fun _=>Ca) hx Tryz.Cu.mixed ky7 (OE (by simp)) [0,3,5] [sq 0 (k:=.p (.bin .add 0)) (vs:=[.int .i64 (j:Nat),.int .i64 1]) (rs:=[some (.int .i64 ((j+1:Nat):Int))]) (σ:=σ) (σ':=σ) (fun n=>by
  have hw:IntKind.i64.wrap (((j:Nat):Int)+1)=((j+1:Nat):Int):=by rw[IntKind.wrap_i64];omega
  show some ([some (PV.int .i64 (IntKind.i64.wrap (((j:Nat):Int)+1)))],σ)=_;rw[hw])] (by kernel_rfl) hs hq
end
end
end Go.Abs.Z

namespace Go.Abs.Z
noncomputable section
open Go.Proofs Go.RowKit
set_option linter.unusedVariables false
def IV(p:Nat→Bool)(n:Nat):List Int:=((List.range n).filter p).map Int.ofNat
theorem bZ(p:Nat→Bool)(n:Nat):IV p (n+1)=if p n then IV p n++[(n:Int)] else IV p n:=by
 unfold IV;rw[List.range_succ,List.filter_append,Ed];by_cases h:p n<;>simp[h]
theorem jT(p:Nat→Bool)(n:Nat):(IV p n).length≤n:=by
 have:=Ez p (List.range n);simpa [IV] using this
theorem MH(σ:Sto)(l:List Int):Lp (FP σ l).1:=by
 unfold FP;split
 ·exact .inl rfl
 ·exact .inr ⟨_,_,_,rfl⟩
theorem MG{σ:Sto}{l:List Int}(h:l≠[]):FP σ l=(.arr σ.length (l.length - 1) 0 l.length 1,σ++[[.arrv (l.length - 1) 1 (l.map (PV.int .i64))]]):=by
 unfold FP;split
 ·exact absurd rfl h
 ·rfl
theorem mo{σ:Sto}{l:List Int}{id:Nat}(h:id<σ.length):(FP σ l).2[id]?=σ[id]?:=by
 by_cases he:l=[]
 ·subst he;rfl
 ·rw[MG he];exact Ae h
theorem mq{σ:Sto}{l:List Int}(x:Int)(hl:l.length<4294967295):Cq pur GQ (.Fa 1) [(FP σ l).1,.slice true 1 [.int .i64 x]] (FP σ l).2=some ([some (FP σ (l++[x])).1],(FP σ (l++[x])).2):=by
 have hm:Cb=4294967296:=rfl;rw[MG (l:=l++[x]) (by simp)]
 by_cases he:l=[]
 ·subst he;have h1:[PV.int .i64 x].length≤Cb∧[PV.int .i64 x].all PV.ones=true∧[PV.int .i64 x].all PV.okc=true:=⟨by rw[hm];show 1≤4294967296;decide,rfl,rfl⟩
  show Cq pur GQ (.Fa 1) [.nils,.slice true 1 [.int .i64 x]] σ=_;simp only[Cq,Jn,if_true,Fa,Ee,Bool.false_eq_true,if_false,if_pos h1];rfl
 ·rw[MG he];have hlt:0<l.length:=Ej.2 he;have h1:l.length+[PV.int .i64 x].length≤Cb∧[PV.int .i64 x].all PV.ones=true∧[PV.int .i64 x].all PV.okc=true:=⟨by rw[hm];simp;omega,rfl,rfl⟩
  have h2:Gs (σ++[[PV.arrv (l.length - 1) 1 (l.map (PV.int .i64))]]) σ.length (l.length - 1) 0 l.length 1=some (l.map (PV.int .i64)):=by
   simp only[Gs,List.getElem?_concat_length,Dq,if_true,and_self]
   rw[if_pos (by simp),CS,BC (by simp)]
  simp only[Cq,Jn,if_true,Fa,h2,Ee,Bool.false_eq_true,if_false,if_pos h1];rw[Nat.sub_add_cancel hlt];simp;rfl
def dV:Cy:=cA 49 IG
theorem AQS:Gf Tryz.prog pur IG Tryz.f49=some dV:=by kernel_rfl
theorem AvV:dV.ntmps+dV.extra=25:=by kernel_rfl
theorem AvW:dV.ntmps=25:=by kernel_rfl
theorem AvX:dV.nargs=1:=by kernel_rfl
theorem AzY:dV.results=[(2,none)]:=by kernel_rfl
theorem Zp:∀{l:List PV} {w:W},aX l=some w→l=w.map fun X=>PV.int .u64 (X.toNat:Int)
 |[],w,h=>by cases h;rfl
 |v::l,w,h=>by
  simp only[aX] at h
  split at h
  ·rename_i n r hr
   split at h
   ·rename_i hn;cases h;rw[AR,←Zp hr];congr 2;rw[BitVec.toNat_ofInt];omega
   ·cases h
  ·cases h
theorem sG{σ:Sto}{v:PV}{w:W}(h:wOf σ v=some w):∃id g i,v=.aptr id g 16 i 0∧id<σ.length∧w.length=16∧∀(σ':Sto),σ'[id]?=σ[id]?→∀q,q<16→BR (.ld 1 false) [.aptr id g 16 i (0+q * 1)] σ'=some [some (.int .u64 ((w.getD q 0#64).toNat:Int))]:=by
 unfold wOf at h
 split at h
 case h_2=>cases h
 rename_i id g size i off
 split at h
 case h_2=>cases h
 rename_i cs hcs
 split at h
 case h_2=>cases h
 rename_i es hes
 split at h
 case h_2=>cases h
 rename_i l hl
 split at h
 case h_2=>cases h
 rename_i w' hw
 split at h
 case isFalse=>cases h
 rename_i hh;obtain⟨rfl,rfl,hlen⟩:=hh;cases h;refine⟨id,g,i,rfl,(Ab.1 hcs).1,hlen,fun σ' hσ q hq=>?_⟩
 have e:=Zp hw;subst e
 have hg:(w.map fun X=>PV.int .u64 (X.toNat:Int))[q]?=some (.int .u64 ((w.getD q 0#64).toNat:Int)):=by
  rw[Af,Ad (by omega),Aj,Ad (by omega)];rfl
 have hc:(PV.agg (w.map fun X=>PV.int .u64 (X.toNat:Int))).cells=w.map fun X=>PV.int .u64 (X.toNat:Int):=rfl
 simp only[BR,hσ,hcs,hes,hl,Yg,sub,hc,Bc,Dv,hg];rfl
theorem aa:FQ Tryz.prog 49 Q0:=by
 intro call hS args σ r σ' hown h;unfold Q0 at h
 split at h
 case h_2=>cases h
 rename_i v;obtain⟨w,hw,hr⟩:=Ac.1 h;obtain⟨id,g,i,rfl,hid,hlen,hld⟩:=sG hw;have hlst:lst (bit w)=IV (bit w) 1024:=rfl;rw[hlst] at hr;obtain⟨L,hL⟩:∃L,IV (bit w) 1024=L:=⟨_,rfl⟩;rw[hL] at hr;have hr1:(FP σ L).1=r:=congrArg Prod.fst hr;have hr2:(FP σ L).2=σ':=congrArg Prod.snd hr;refine HT.fn (fn:=Tryz.f49) (c:=SH) Tryz.func49 (by kernel_rfl) (by kernel_rfl) AQS hown ⟨by rw[AvX];rfl,by rw[AvW];show 1≤25;decide⟩ fun cx n hx=>?_
 rw[AvV,l7];refine HT.seq (R:=fun e ff1 σ1=>e=.normal∧σ1=σ∧Sub [(0,some (vA id g 16 i 0))] ff1) (w0 hx (Sub.refl _) fun ff1 h1=>⟨rfl,rfl,h1⟩) ?_ (fun e _ _ he h=>absurd h.1 he)
 rintro ff1 σa ⟨_,rfl,h1⟩
 refine HT.seq (R:=fun e ff1 σ2=>e=.normal∧σ2=σa∧Sub [(0,some (vA id g 16 i 0)),(3,some .nils)] ff1) (w1 hx h1 fun ff1 h1=>⟨rfl,rfl,h1⟩) ?_ (fun e _ _ he h=>absurd h.1 he)
 rintro ff2 σb ⟨_,rfl,h2⟩
 refine HT.seq (R:=fun e ff1 σ1=>e=.normal∧σ1=(FP σb L).2∧Sub [(3,some (FP σb L).1)] ff1) ?_ ?_ (fun e _ _ he h=>absurd h.1 he)
 ·refine HT.seq (R:=fun e ff1 σ2=>e=.normal∧σ2=σb∧Sub (frL (vA id g 16 i 0) .nils 0) ff1) (w2 hx h2 fun ff1 h1=>⟨rfl,rfl,h1⟩) ?_ (fun e _ _ he h=>absurd h.1 he)
  rintro ff3 σc ⟨_,rfl,h3⟩
  refine HT.block (R:=fun e ff1 σ1=>e=.exit 0∧σ1=(FP σc L).2∧Sub [(3,some (FP σc L).1)] ff1) ?_ (fun _ _ h=>⟨rfl,h.2⟩) (fun _ _ _ he h=>absurd h.1 he)
  let J:Nat→FF→Sto→Prop:=fun m ff σ1=>∃j,m=1024 - j∧j≤1024∧σ1=(FP σc (IV (bit w) j)).2∧Sub (frL (vA id g 16 i 0) (FP σc (IV (bit w) j)).1 j) ff
  refine HT.loop J (m:=1024) ⟨0,rfl,by decide,rfl,h3⟩ ?_
  rintro m ff σ1 ⟨j,rfl,hj,rfl,h4⟩
  rw[wy];refine HT.seq (R:=fun e ff1 σ2=>e=.normal∧σ2=(FP σc (IV (bit w) j)).2∧Sub ((6,some (.bool (decide (((j:Nat):Int) < 1024))))::frL (vA id g 16 i 0) (FP σc (IV (bit w) j)).1 j) ff1) (w3 hx h4 fun ff1 h=>⟨rfl,rfl,h⟩) ?_ (fun e _ _ he h=>absurd h.1 he)
  rintro ff5 _ ⟨_,rfl,h5⟩
  by_cases hj2:j<1024
  ·have hd:decide (((j:Nat):Int) < 1024)=true:=decide_eq_true (by omega)
   rw[hd] at h5;refine HT.seq (R:=fun e ff1 σ2=>e=.normal∧σ2=(FP σc (IV (bit w) j)).2∧Sub (frL (vA id g 16 i 0) (FP σc (IV (bit w) j)).1 j) ff1) (wK (p:=true) hx h5 fun ff1 h=>⟨rfl,rfl,h⟩) ?_ (fun e _ _ he h=>absurd h.1 he)
   rintro ff6 _ ⟨_,rfl,h6⟩
   refine HT.seq (R:=fun e ff1 σ2=>e=.normal∧σ2=(FP σc (IV (bit w) (j+1))).2∧Sub (frL (vA id g 16 i 0) (FP σc (IV (bit w) (j+1))).1 j) ff1) ?_ ?_ (fun e _ _ he h=>absurd h.1 he)
   ·refine HT.block (R:=fun e ff1 σ2=>e=.normal∧σ2=(FP σc (IV (bit w) (j+1))).2∧Sub (frL (vA id g 16 i 0) (FP σc (IV (bit w) (j+1))).1 j) ff1) ?_ (fun _ _ h=>by cases h.1) (fun _ _ _ _ h=>h)
    refine HT.seq (R:=fun e ff1 σ2=>e=.normal∧σ2=(FP σc (IV (bit w) j)).2∧Sub ((4,some (.int .i64 (j:Nat)))::frL (vA id g 16 i 0) (FP σc (IV (bit w) j)).1 j) ff1) (w4 hx h6 fun ff1 h=>⟨rfl,rfl,h⟩) ?_ (fun e _ _ he h=>absurd h.1 he)
    rintro ff7 _ ⟨_,rfl,h7⟩
    refine HT.seq (R:=fun e ff1 σ2=>e=.normal∧σ2=(FP σc (IV (bit w) j)).2∧Sub ((18,some (.bool (bit w j)))::(4,some (.int .i64 (j:Nat)))::frL (vA id g 16 i 0) (FP σc (IV (bit w) j)).1 j) ff1) (w5 hj2 hx (hld _ (mo hid) (j / 64) (by omega)) h7 fun ff1 h=>⟨rfl,rfl,h⟩) ?_ (fun e _ _ he h=>absurd h.1 he)
    rintro ff8 _ ⟨_,rfl,h8⟩
    rw[bZ];cases hb:bit w j with
    |false=>
     rw[hb] at h8;exact w6F hx h8 fun ff1 h=>⟨rfl,rfl,h⟩
    |true=>
     rw[hb] at h8;have hl:=jT (bit w) j;have happ:=mq (σ:=σc) (l:=IV (bit w) j) (j:Int) (by omega)
     have hne:IV (bit w) j++[(j:Int)]≠[]:=by simp
     simp only[if_true];rw[MG hne] at happ ⊢;exact w6T (MH _ _) hx happ h8 fun ff1 h=>⟨rfl,rfl,h⟩
   ·rintro ff7 _ ⟨_,rfl,h7⟩
    exact w7 hj2 hx h7 fun ff1 h=>.inl ⟨rfl,1024 - (j+1),by omega,j+1,rfl,by omega,rfl,h⟩
  ·have hj3:j=1024:=by omega
   subst hj3;have hd:decide (((1024:Nat):Int) < 1024)=false:=by decide
   rw[hd] at h5;rw[hL] at h5 ⊢;refine HT.seq (R:=fun e ff1 σ2=>e=.exit 0∧σ2=(FP σc L).2∧Sub (frL (vA id g 16 i 0) (FP σc L).1 1024) ff1) (wK (p:=false) hx h5 fun ff1 h=>⟨rfl,rfl,h⟩) (fun _ _ h=>by cases h.1) ?_
   rintro e ff6 _ _ ⟨rfl,rfl,h6⟩
   exact .inr ⟨by simp,rfl,rfl,(Qz [3] (by kernel_rfl)).trans h6⟩
 rintro ff3 _ ⟨_,rfl,h3⟩
 refine wZ (MH _ _) hx h3 fun ff4 h4=>⟨.inr rfl,[r],?_,rfl,by rw[hr2];exact Dead.refl _⟩
 rw[AzY];have:=h4 2 _ rfl;rw[hr1] at this;simp only[Gt,this];have hf:=MH σb L;rw[hr1] at hf;rcases hf with rfl | ⟨_,_,_,rfl⟩<;>rfl
def iT:List (FuncId×GM):=(49,Q0)::WP
theorem WN:∀x∈iT,FQ Tryz.prog x.1 x.2:=by
 intro x hx;rcases Av.1 hx with rfl | hx
 ·exact aa
 ·exact WO x hx
end
end Go.Abs.Z
