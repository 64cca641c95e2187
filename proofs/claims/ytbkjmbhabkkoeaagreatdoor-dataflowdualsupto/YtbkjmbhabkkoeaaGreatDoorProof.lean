/- PROVED: assessorlaw19.DataflowDuals returns true and leaves its arguments as they were, for all arguments whose bulk is at most 1048576 (Rows.DataflowDualsUptoCardSaid, the tied card). The listed variables start as the program text lays them (the card ties them, over the pruned copy of the repository). No other condition. -/
import Derived.Test.YtbkjmbhabkkoeaaGreatDoorKbc
import Derived.Test.YtbkjmbhabkkoeaaGreatDoorKbd
import Derived.Test.YtbkjmbhabkkoeaaGreatDoorKbg

set_option linter.unusedVariables false
set_option linter.unusedSimpArgs false
namespace Go.Abs.Z
open Go.Proofs Go.RowKit Go.ChangeShapes Go.WideShapes Go.ChangeAt Go.ChangeMaps
open Go.Proofs.YtbkjmbhabkkoeaaGreatDoor
set_option linter.unusedVariables false
theorem lT{f g k:PV}{ps:List Pt}{gs ks:List PV}{gl kl:List (List Int)}(hf:Cw f ps)(hg:Dk g gs gl)(hk:Dk k ks kl)(hps:∀p∈ps,p.nx.length<1000000000)(hpl:ps.length<1000000000)(hgs:∀l∈gl,l.length<1000000000)(hks:∀l∈kl,l.length<1000000000)(hgl:gl.length<1000000000)(hkl:kl.length<1000000000):
  ∃σ',Jp Tryz.prog 4 [.agg [f],g,k] [] (.bool true) σ':=by
 obtain⟨σ',n,hn⟩:=eq4 (τ:=[]) hf hg hk hps hpl hgs hks hgl hkl;refine⟨σ',Ym n _ _ _ _ _ ?_ (hn n (Be _))⟩
 intro p hp;simp only[Av,AB,or_false] at hp;rcases hp with rfl | rfl | rfl
 ·rcases hf with rfl | ⟨rfl,_⟩<;>rfl
 ·exact hg.dis
 ·exact hk.dis
set_option maxRecDepth 100000 in
theorem dI(H:Type)(enc:TypeId×Value→H)(W:World)(base:Nat)(args:Array Value)(ds gs:List (DataW H))(before:List MemPlace)
  (hval:∀(j:Nat) t v,Tryz.f4.params[j]?=some t→args[j]?=some v→Value.okWide Tryz.prog W .any base t v)
  (hW:DataW.Whole enc Tryz.prog Tryz.f4.params.toList Rows.dataflowDualsSpec.vars false W args.toList ds gs before) (hk:Rows.uptoSmall H (ds++gs)=true) :
  Calls Tryz.prog 4 args W fun e W'=>∃v,e=.returned v∧Rows.dataflowDualsSpec.post enc Tryz.prog Tryz.f4 false true false false W args v W':=by
 have hW':=hW;obtain⟨p,q,hA0,hV,rfl,hfz,hnd⟩:=hW;have hA:DataW.TrodAll enc Tryz.prog W 0 (fun _=>true) true Tryz.f4.params.toList args.toList ds p:=hA0
 rw[Tryz.params4] at hA hval;obtain⟨v0,v2,v3,d0,d2,d3,p0,p2,p3,rfl,rfl,rfl,h0,h2,h3⟩:=trodAll_three hA;obtain⟨rfl,rfl⟩:=trodVars_none hV;have hv0:Value.okWide Tryz.prog W .any base 24 v0:=hval 0 24 v0 rfl rfl;have hv2:Value.okWide Tryz.prog W .any base 25 v2:=hval 1 25 v2 rfl rfl;have hv3:Value.okWide Tryz.prog W .any base 25 v3:=hval 2 25 v3 rfl rfl
 have ag0:∃cs,v0=.agg cs:=by
  obtain⟨cs,h,_⟩:=okWide_struct Tryz.underlying24 hv0;exact⟨cs,h⟩
 have na2:∀cs,v2≠.agg cs:=by
  obtain⟨a,len,cap,rfl⟩:=okWide_slice Tryz.underlying25 hv2;intro cs h;cases h
 have na3:∀cs,v3≠.agg cs:=by
  obtain⟨a,len,cap,rfl⟩:=okWide_slice Tryz.underlying25 hv3;intro cs h;cases h
 clear hA0;obtain⟨f,ps,hf,rf,lf,lp⟩:=bA ag0 h0;obtain⟨g,gs,gl,hg,rg,lg,lgs⟩:=Wu na2 h2;obtain⟨k,ks,kl,hkk,rk,lk,lks⟩:=Wu na3 h3;have hbound:=of_decide_eq_true hk;simp only[Rows.uptoBulkAll,BD] at hbound;have hlt:=fun x hx=>hW'.lt (p:=x) hx
 obtain⟨σ',hok⟩:=lT hf hg hkk (fun x hx=>by have:=lp x hx;omega) (by omega) (fun l hl=>by have:=lgs l hl;omega) (fun l hl=>by have:=lks l hl;omega) (by omega) (by omega)
 refine(Ze (sM W) hok ⟨rfl,fun j p hp=>?_⟩).mono fun e W' ⟨he,hb⟩=>?_
 ·match j,hp with
  |0,hp=>cases hp;exact⟨_,rfl,.one (.inl rf)⟩
  |1,hp=>cases hp;exact⟨_,rfl,.one (.inl rg)⟩
  |2,hp=>cases hp;exact⟨_,rfl,.one (.inl rk)⟩
  |j+3,hp=>simp at hp
 ·subst he;refine⟨_,rfl,YA hW' rfl rfl rfl (fun _ _ _=>trodAll_cons_mk (shut_bool Tryz.underlying4 _) trodAll_mk0) (fun sp hs'=>?_) hb (ok_one (by kernel_rfl) rfl (okWide_bool_mk Tryz.underlying4 _))⟩
  rw[Tryz.params4];have:=trodAll_mk3 (O4 Yw wN h0 hb (fun x hx=>hlt x (by simp[hx])) sp (fun x hx=>hs' x (by simp[hx]))) (O4 QT qW h2 hb (fun x hx=>hlt x (by simp[hx])) sp (fun x hx=>hs' x (by simp[hx]))) (O4 QT qW h3 hb (fun x hx=>hlt x (by simp[hx])) sp (fun x hx=>hs' x (by simp[hx])))
  simpa using this
end Go.Abs.Z
namespace Go.Proofs.YtbkjmbhabkkoeaaGreatDoor.dataflowDuals
open Go.ChangeShapes Go.WideShapes Go.ChangeAt Go.RowKit Go.Abs.Z
set_option linter.unusedVariables false
def leaf:Value:=.agg #[.slice Option.none 0 0]
def xH{H:Type}:DataW H:=.agg [.nil]
noncomputable def world(os:Os):World:=World.laidAll Tryz.prog os Rows.dataflowDualsUptoRow.laid
set_option maxRecDepth 100000 in
theorem kV(os:Os)(args:Array Value):laidMetH Tryz.prog Rows.dataflowDualsUptoRow.laid ((world os).forCall (fun _ _=>0) ⟨#[],args,[]⟩).memory:=by
 rw[MakeChecks.laidMetH_plain _ _ _ (by kernel_rfl)]
 exact laidMet_laidAll _ (by kernel_rfl) (by kernel_rfl)
theorem reads(os:Os){H:Type}(enc:TypeId×Value→H):∃places,DataW.whole enc Tryz.prog ((world os).forCall (fun _ _=>0) ⟨#[],#[leaf,.slice none 0 0,.slice none 0 0],[]⟩).memory Tryz.f4.params.toList Rows.dataflowDualsSpec.vars false #[leaf,.slice none 0 0,.slice none 0 0].toList 8=some ([xH,.nil,.nil],[],places):=
 ⟨[],by kernel_rfl⟩
theorem shaped(os:Os):((world os).forCall (fun _ _=>0) ⟨#[],#[leaf,.slice none 0 0,.slice none 0 0],[]⟩).Shaped Tryz.prog:=World.shaped_of_ZipB (by kernel_rfl) (by kernel_rfl)
theorem xq(os:Os):Input.okWideB Tryz.prog ((world os).forCall (fun _ _=>0) ⟨#[],#[leaf,.slice none 0 0,.slice none 0 0],[]⟩) 4 ⟨#[],#[leaf,.slice none 0 0,.slice none 0 0],[]⟩=true:=by kernel_rfl
set_option maxRecDepth 100000 in
theorem lifted(os:Os)(started:os.Started)(H:Type)(enc:TypeId×Value→H)(F:Stop.Interp):
  ReturnsInHanded {} Tryz.checked os 4 .any ((Rows.OpenSpec.upto Rows.dataflowDualsSpec).preRow enc Tryz.prog Tryz.f4 Rows.dataflowDualsUptoRow.domain false Rows.dataflowDualsUptoRow.laid) (((Rows.OpenSpec.upto Rows.dataflowDualsSpec).at F).post enc Tryz.prog Tryz.f4 false true false false):=by
 obtain⟨places,hx⟩:=reads os enc
 refine returnsInHanded_of_row (C:=Tryz.checked) (s:=Rows.OpenSpec.upto Rows.dataflowDualsSpec) Go.Abs.Z.own started (by kernel_rfl) Tryz.func4
  ⟨world os,fun _ _=>0,⟨#[],#[leaf,.slice none 0 0,.slice none 0 0],[]⟩,World.laidAll_os _ _ _,shaped os,(Input.okWide_of_okWideB (base:=0) (xq os)).1,(Input.okWide_of_okWideB (xq os)).2,
   OpenSpec.preRow_of_cond 8 hx (by kernel_rfl) (fun k hk=>by cases hk;kernel_rfl) (by kernel_rfl) (kV os _),by
    simp only[Assume.holds];exact⟨by simp,by simp,by simp,by simp,by simp⟩⟩ ?_
 intro W base args ds gs before hval hW _ hk _ _ _ _;exact dI H enc W base args ds gs before hval hW (hk _ rfl)
theorem over:Rows.DataflowDualsUptoSaid:=
 OpenClaim.holds_of_cond 4 Tryz.f4 rfl rfl rfl rfl rfl rfl rfl ⟨rfl,rfl,rfl,rfl,rfl⟩ rfl rfl rfl rfl rfl (by kernel_rfl) Tryz.func4 closed
  (of_decide_eq_true (by kernel_rfl)) (by unfold Func.isWrapper;first | (rw[if_pos (by decide +kernel)];kernel_rfl) | (rw[if_neg (by decide +kernel)];exact⟨rfl,rfl⟩))
  (fun os started H enc _ F=>by rw[OpenClaim.pre_eq_preRow];exact lifted os started H enc F)
theorem plain(f:FuncId)(fn:Func)(hf:Tryz.pinned.checked.prog.funcNamed "assessor/assessorlaw19.DataflowDuals" = some f)(hfn:Tryz.pinned.checked.prog.funcs[f]?=some fn):
  false=Tryz.pinned.checked.prog.looks []∧∀(j:Nat) t,fn.params[j]?=some t→Tryz.pinned.checked.prog.wantsStandIn t=false:=by
 obtain rfl:f=4:=Option.some.inj ((show Tryz.prog.funcNamed "assessor/assessorlaw19.DataflowDuals" = some 4 by kernel_rfl).symm.trans hf) |>.symm
 obtain rfl:fn=Tryz.f4:=(Option.some.inj (Tryz.func4.symm.trans hfn)).symm;refine⟨by kernel_rfl,fun j t ht=>?_⟩
 rw[Tryz.params4] at ht;have ht':t=24∨t=25:=by simpa using Array.mem_of_getElem? ht
 rcases ht' with rfl | rfl
 ·exact(show Tryz.prog.wantsStandIn 24=false by kernel_rfl)
 ·exact(show Tryz.prog.wantsStandIn 25=false by kernel_rfl)
theorem proved:Rows.DataflowDualsUptoCardSaid:=
 Claim7.holds_tied_plain_at .later [] _ _ _ _ over (fun _ h=>by cases h) (by kernel_rfl) (fun _ h=>by cases h) dataflowDualsUpto_row_tie rfl ⟨rfl,rfl⟩ (by kernel_rfl) rfl plain (by kernel_rfl)
#print axioms proved
end Go.Proofs.YtbkjmbhabkkoeaaGreatDoor.dataflowDuals
