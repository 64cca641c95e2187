/- PROVED: assessorlaw06.LayoutLossless returns true and leaves its argument as it was, for every text (Rows.LayoutLosslessCardSaid, the tied card). The listed variables start as the program text lays them (the card ties them, over the pruned copy of the repository). No other condition. -/
import Derived.Test.YtngalibidopjlaaGreatDoorKay
import Derived.Test.YtngalibidopjlaaGreatDoorKbg

set_option linter.unusedVariables false
set_option linter.unusedSimpArgs false
namespace Go.Abs.Z
open Go.Proofs Go.RowKit Go.ChangeShapes Go.WideShapes Go.ChangeAt Go.ChangeMaps
open Go.Proofs.YtngalibidopjlaaGreatDoor
set_option linter.unusedVariables false
theorem AQM(x:Str):AvR Tryz.prog 3 [.str x] [] (.bool true) []:=by
 obtain⟨σ,h⟩:=lossless_true x;exact law_ok (tabOk 3 a3 rfl) (by intro p hp;rw[List.mem_singleton] at hp;subst hp;rfl) h
set_option maxRecDepth 100000 in
theorem contract3(H:Type)(enc:TypeId×Value→H)(W:World)(base:Nat)(args:Array Value)(ds gs:List (DataW H))(before:List MemPlace)
  (hval:∀(j:Nat) t v,Tryz.f3.params[j]?=some t→args[j]?=some v→Value.okWide Tryz.prog W .any base t v)
  (hW:DataW.Whole enc Tryz.prog Tryz.f3.params.toList Rows.layoutLosslessSpec.vars false W args.toList ds gs before) :
  Calls Tryz.prog 3 args W fun e W'=>∃v,e=.returned v∧Rows.layoutLosslessSpec.post enc Tryz.prog Tryz.f3 false true false false W args v W':=by
 have hW':=hW;obtain⟨p,q,hA0,hV,rfl,hfz,hnd⟩:=hW;have hA:DataW.TrodAll enc Tryz.prog W 0 (fun _=>true) true Tryz.f3.params.toList args.toList ds p:=hA0
 rw[Tryz.params3] at hA hval;obtain⟨v0,d0,rfl,rfl,h0⟩:=trodAll_one hA;obtain⟨rfl,rfl⟩:=trodVars_none hV;have hv0:Value.okWide Tryz.prog W .any base 9 v0:=hval 0 9 v0 rfl rfl;obtain⟨s,rfl,rfl,rfl,hs⟩:=open_string Tryz.underlying9 hv0 h0;clear hA0;refine(calls_true (tab_of W) (AQM s.data.toList) ⟨rfl,fun j p hp=>?_⟩).mono fun e W' ⟨he,hb⟩=>?_
 ·match j,hp with
  |0,hp=>cases hp;exact⟨_,rfl,.one (.inl (.str s))⟩
  |j+1,hp=>simp at hp
 ·subst he;refine⟨_,rfl,post_below hW' rfl rfl rfl (fun _ _ _=>trodAll_cons_mk (shut_bool Tryz.underlying4 _) trodAll_mk0) (fun sp hs'=>?_) hb (ok_one (by kernel_rfl) rfl (okWide_bool_mk Tryz.underlying4 _))⟩
  rw[Tryz.params3];exact trodAll_mk1 (shut_string Tryz.underlying9 hs)
end Go.Abs.Z
namespace Go.Proofs.YtngalibidopjlaaGreatDoor.layoutLossless
open Go.ChangeShapes Go.WideShapes Go.ChangeAt Go.RowKit Go.Abs.Z
set_option linter.unusedVariables false
noncomputable def world(os:Os):World:=World.laidAll Tryz.prog os Rows.layoutLosslessRow.laid
set_option maxRecDepth 100000 in
theorem laid_met(os:Os)(args:Array Value):laidMetH Tryz.prog Rows.layoutLosslessRow.laid ((world os).forCall (fun _ _=>0) ⟨#[],args,[]⟩).memory:=by
 rw[MakeChecks.laidMetH_plain _ _ _ (by kernel_rfl)]
 exact laidMet_laidAll _ (by kernel_rfl) (by kernel_rfl)
theorem reads(os:Os){H:Type}(enc:TypeId×Value→H):∃places,DataW.whole enc Tryz.prog ((world os).forCall (fun _ _=>0) ⟨#[],#[.string ⟨#[]⟩],[]⟩).memory Tryz.f3.params.toList Rows.layoutLosslessSpec.vars false #[Value.string ⟨#[]⟩].toList 8=some ([.lit (.string [])],[],places):=
 ⟨[],by kernel_rfl⟩
theorem shaped(os:Os):((world os).forCall (fun _ _=>0) ⟨#[],#[.string ⟨#[]⟩],[]⟩).Shaped Tryz.prog:=World.shaped_of_ZipB (by kernel_rfl) (by kernel_rfl)
theorem okay(os:Os):Input.okWideB Tryz.prog ((world os).forCall (fun _ _=>0) ⟨#[],#[.string ⟨#[]⟩],[]⟩) 3 ⟨#[],#[.string ⟨#[]⟩],[]⟩=true:=by kernel_rfl
set_option maxRecDepth 100000 in
theorem lifted(os:Os)(started:os.Started)(H:Type)(enc:TypeId×Value→H)(F:Stop.Interp):
  ReturnsInHanded {} Tryz.checked os 3 .any ((OpenSpec.ofChange Rows.layoutLosslessSpec).preRow enc Tryz.prog Tryz.f3 Rows.layoutLosslessRow.domain false Rows.layoutLosslessRow.laid) (((OpenSpec.ofChange Rows.layoutLosslessSpec).at F).post enc Tryz.prog Tryz.f3 false true false false):=by
 obtain⟨places,hx⟩:=reads os enc
 refine returnsInHanded_of_row (C:=Tryz.checked) (s:=OpenSpec.ofChange Rows.layoutLosslessSpec) Go.Abs.Z.own started (by kernel_rfl) Tryz.func3
  ⟨world os,fun _ _=>0,⟨#[],#[.string ⟨#[]⟩],[]⟩,World.laidAll_os _ _ _,shaped os,rfl,(Input.okWide_of_okWideB (okay os)).2,
   OpenSpec.preRow_of_cond 8 hx (by kernel_rfl) (fun k hk=>by cases hk) (by kernel_rfl) (laid_met os _),by
    simp only[Assume.holds];exact⟨by simp,by simp,by simp,by simp,by simp⟩⟩ ?_
 intro W base args ds gs before hval hW _ _ _ _ _ _;exact contract3 H enc W base args ds gs before hval hW
theorem over:Rows.LayoutLosslessSaid:=
 OpenClaim.holds_of_cond 3 Tryz.f3 rfl rfl rfl rfl rfl rfl rfl ⟨rfl,rfl,rfl,rfl,rfl⟩ rfl rfl rfl rfl rfl (by kernel_rfl) Tryz.func3 closed
  (of_decide_eq_true (by kernel_rfl)) (by unfold Func.isWrapper;first | (rw[if_pos (by decide +kernel)];kernel_rfl) | (rw[if_neg (by decide +kernel)];exact⟨rfl,rfl⟩))
  (fun os started H enc _ F=>by rw[OpenClaim.pre_eq_preRow];exact lifted os started H enc F)
theorem plain(f:FuncId)(fn:Func)(hf:Tryz.pinned.checked.prog.funcNamed "assessor/assessorlaw06.LayoutLossless" = some f)(hfn:Tryz.pinned.checked.prog.funcs[f]?=some fn):
  false=Tryz.pinned.checked.prog.looks []∧∀(j:Nat) t,fn.params[j]?=some t→Tryz.pinned.checked.prog.wantsStandIn t=false:=by
 obtain rfl:f=3:=Option.some.inj ((show Tryz.prog.funcNamed "assessor/assessorlaw06.LayoutLossless" = some 3 by kernel_rfl).symm.trans hf) |>.symm
 obtain rfl:fn=Tryz.f3:=(Option.some.inj (Tryz.func3.symm.trans hfn)).symm;refine⟨by kernel_rfl,fun j t ht=>?_⟩
 rw[Tryz.params3] at ht;have ht':t=9:=by simpa using Array.mem_of_getElem? ht
 subst ht';exact(show Tryz.prog.wantsStandIn 9=false by kernel_rfl)
theorem proved:Rows.LayoutLosslessCardSaid:=
 Claim7.holds_tied_plain_at .later [] _ _ _ _ over (fun _ h=>by cases h) (by kernel_rfl) (fun _ h=>by cases h) layoutLossless_row_tie rfl ⟨rfl,rfl⟩ (by kernel_rfl) rfl plain (by kernel_rfl)
#print axioms proved
end Go.Proofs.YtngalibidopjlaaGreatDoor.layoutLossless
