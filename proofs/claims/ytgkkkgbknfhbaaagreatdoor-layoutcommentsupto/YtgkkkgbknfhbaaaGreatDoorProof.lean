/- PROVED: assessorlaw06.LayoutComments returns true and leaves its arguments as they were, for all arguments whose bulk is at most 1048576 (Rows.LayoutCommentsUptoCardSaid, the tied card). The listed variables start as the program text lays them (the card ties them, over the pruned copy of the repository). No other condition. -/
import Derived.Test.YtgkkkgbknfhbaaaGreatDoorKaw
import Derived.Test.YtgkkkgbknfhbaaaGreatDoorKbe
import Derived.Test.YtgkkkgbknfhbaaaGreatDoorKbh

set_option linter.all false
namespace Go.Abs.Z
open Go.Proofs Go.RowKit Go.ChangeShapes Go.WideShapes Go.ChangeAt Go.ChangeMaps
open Go.Proofs.YtgkkkgbknfhbaaaGreatDoor
theorem gT(s:Str){X:PV}{p:List Int}(hX:KI X p)(hp:p.length<1000000000)(z:Int){x:Tr}(wx:x.wf)(hx:x.nds.length≤2000000):LD Tryz.prog 4 [.str s,X,.int .i64 z,x.pv] [] (.bool true) []:=
 AUA (tN 4 a4 rfl) (by intro p hp;simp only[AU,ET,or_false] at hp;rcases hp with rfl | rfl | rfl | rfl<;>first | rfl | exact hX.di | exact x.Ef) (Wn s hX hp z wx hx)
set_option maxRecDepth 100000 in
theorem pG(H:Type)(enc:TypeId×Value→H)(W:World)(base:Nat)(args:Array Value)(ds gs:List (DataW H))(before:List MemPlace)
  (hval:∀(j:Nat) t v,Tryz.f4.params[j]?=some t→args[j]?=some v→Value.okWide Tryz.prog W .any base t v)
  (hW:DataW.Whole enc Tryz.prog Tryz.f4.params.toList Rows.layoutCommentsSpec.vars false W args.toList ds gs before) (hk:Rows.uptoSmall H (ds++gs)=true) (hsh:W.ShapedOpen Tryz.prog) :
  Calls Tryz.prog 4 args W fun e W'=>∃v,e=.returned v∧Rows.layoutCommentsSpec.post enc Tryz.prog Tryz.f4 false true false false W args v W':=by
 have hW':=hW;obtain⟨p,q,hA0,hV,rfl,hfz,hnd⟩:=hW;have hA:DataW.TrodAll enc Tryz.prog W 0 (fun _=>true) true Tryz.f4.params.toList args.toList ds p:=hA0
 rw[Tryz.params4] at hA hval;obtain⟨v0,v1,v2,v3,d0,d1,d2,d3,p0,p1,p2,p3,rfl,rfl,rfl,h0,h1,h2,h3⟩:=trodAll_four hA;obtain⟨rfl,rfl⟩:=trodVars_none hV;have hv0:Value.okWide Tryz.prog W .any base 9 v0:=hval 0 9 v0 rfl rfl;have hv1:Value.okWide Tryz.prog W .any base 25 v1:=hval 1 25 v1 rfl rfl;have hv2:Value.okWide Tryz.prog W .any base 3 v2:=hval 2 3 v2 rfl rfl;obtain⟨s,rfl,rfl,rfl,hs⟩:=open_string Tryz.underlying9 hv0 h0;obtain⟨i2,rfl,rfl,rfl,w2⟩:=open_int Tryz.underlying3 hv2 h2
 have na1:∀cs,v1≠.agg cs:=by
  obtain⟨a,len,cap,rfl⟩:=okWide_slice Tryz.underlying25 hv1;intro cs h;cases h
 clear hA0;obtain⟨X,l,hX,rX,lX⟩:=nX na1 h1;obtain⟨T,rT,wT,lT⟩:=uX h3;have hbound:=of_decide_eq_true hk;simp only[Rows.uptoBulkAll,Az] at hbound;have hlt:=fun x hx=>hW'.lt (p:=x) hx
 refine(ko (AJT hsh) (gT s.data.toList hX am i2 wT am) ⟨rfl,fun j p hp=>?_⟩).mono fun e W' ⟨he,hb⟩=>?_
 ·match j,hp with
  |0,hp=>cases hp;exact⟨_,rfl,.one (.inl (.str s))⟩
  |1,hp=>cases hp;exact⟨_,rfl,.one (.inl rX)⟩
  |2,hp=>cases hp;exact⟨_,rfl,.one (.inl (.int _ _))⟩
  |3,hp=>cases hp;exact⟨_,rfl,.one (.inl rT)⟩
  |j+4,hp=>simp at hp
 ·subst he;refine⟨_,rfl,jA hW' rfl rfl rfl (fun _ _ _=>trodAll_cons_mk (shut_bool Tryz.underlying4 _) trodAll_mk0) (fun sp hs'=>?_) hb (ok_one (by kernel_rfl) rfl (okWide_bool_mk Tryz.underlying4 _))⟩
  rw[Tryz.params4];have:=trodAll_mk4 (shut_string (enc:=enc) (P:=Tryz.prog) (w:=W') (base:=0) (sp:=sp) (held:=true) Tryz.underlying9 hs) (XI jl BjW h1 hb (fun x hx=>hlt x (by simp[hx])) sp (fun x hx=>hs' x (by simp[hx]))) (shut_int (enc:=enc) (P:=Tryz.prog) (w:=W') (base:=0) (spare:=sp) (held:=true) Tryz.underlying3 w2) (XI jm BjX h3 hb (fun x hx=>hlt x (by simp[hx])) sp (fun x hx=>hs' x (by simp[hx])))
  simpa using this
end Go.Abs.Z
namespace Go.Proofs.YtgkkkgbknfhbaaaGreatDoor.layoutComments
open Go.ChangeShapes Go.WideShapes Go.ChangeAt Go.RowKit Go.Abs.Z
def leaf:Value:=.agg #[.int .i64 0,.string ⟨#[]⟩,.int .i64 0,.int .i64 0,.slice Option.none 0 0]
def BZD{H:Type}:DataW H:=.agg [.lit (.int .i64 0),.lit (.string []),.lit (.int .i64 0),.lit (.int .i64 0),.nil]
noncomputable def world(os:Os):World:=World.laidAll Tryz.prog os Rows.layoutCommentsUptoRow.laid
set_option maxRecDepth 100000 in
theorem wX(os:Os)(args:Array Value):laidMetH Tryz.prog Rows.layoutCommentsUptoRow.laid ((world os).forCall (fun _ _=>0) ⟨#[],args,[]⟩).memory:=by
 rw[MakeChecks.laidMetH_plain _ _ _ (by kernel_rfl)]
 exact laidMet_laidAll _ (by kernel_rfl) (by kernel_rfl)
theorem reads(os:Os){H:Type}(enc:TypeId×Value→H):∃places,DataW.whole enc Tryz.prog ((world os).forCall (fun _ _=>0) ⟨#[],#[.string ⟨#[]⟩,.slice Option.none 0 0,.int .i64 0,leaf],[]⟩).memory Tryz.f4.params.toList Rows.layoutCommentsSpec.vars false #[Value.string ⟨#[]⟩,.slice Option.none 0 0,.int .i64 0,leaf].toList 8=some ([.lit (.string []),.nil,.lit (.int .i64 0),BZD],[],places):=
 ⟨[],by kernel_rfl⟩
theorem shaped(os:Os):((world os).forCall (fun _ _=>0) ⟨#[],#[.string ⟨#[]⟩,.slice Option.none 0 0,.int .i64 0,leaf],[]⟩).Shaped Tryz.prog:=World.shaped_of_ZipB (by kernel_rfl) (by kernel_rfl)
theorem BZ0(os:Os):Input.okWideB Tryz.prog ((world os).forCall (fun _ _=>0) ⟨#[],#[.string ⟨#[]⟩,.slice Option.none 0 0,.int .i64 0,leaf],[]⟩) 4 ⟨#[],#[.string ⟨#[]⟩,.slice Option.none 0 0,.int .i64 0,leaf],[]⟩=true:=by kernel_rfl
set_option maxRecDepth 100000 in
theorem lifted(os:Os)(started:os.Started)(H:Type)(enc:TypeId×Value→H)(F:Stop.Interp):
  ReturnsInHanded {} Tryz.checked os 4 .any ((Rows.OpenSpec.upto Rows.layoutCommentsSpec).preRow enc Tryz.prog Tryz.f4 Rows.layoutCommentsUptoRow.domain false Rows.layoutCommentsUptoRow.laid) (((Rows.OpenSpec.upto Rows.layoutCommentsSpec).at F).post enc Tryz.prog Tryz.f4 false true false false):=by
 obtain⟨places,hx⟩:=reads os enc
 refine returnsInHanded_of_row (C:=Tryz.checked) (s:=Rows.OpenSpec.upto Rows.layoutCommentsSpec) Go.Abs.Z.own started (by kernel_rfl) Tryz.func4
  ⟨world os,fun _ _=>0,⟨#[],#[.string ⟨#[]⟩,.slice Option.none 0 0,.int .i64 0,leaf],[]⟩,World.laidAll_os _ _ _,shaped os,(Input.okWide_of_okWideB (base:=0) (BZ0 os)).1,(Input.okWide_of_okWideB (BZ0 os)).2,
   OpenSpec.preRow_of_cond 8 hx (by kernel_rfl) (fun k hk=>by cases hk;kernel_rfl) (by kernel_rfl) (wX os _),by
    simp only[Assume.holds];exact⟨by simp,by simp,by simp,by simp,by simp⟩⟩ ?_
 intro W base args ds gs before hval hW _ hk _ _ hsh _;exact pG H enc W base args ds gs before hval hW (hk _ rfl) hsh
theorem over:Rows.LayoutCommentsUptoSaid:=
 OpenClaim.holds_of_cond 4 Tryz.f4 rfl rfl rfl rfl rfl rfl rfl ⟨rfl,rfl,rfl,rfl,rfl⟩ rfl rfl rfl rfl rfl (by kernel_rfl) Tryz.func4 closed
  (of_decide_eq_true (by kernel_rfl)) (by unfold Func.isWrapper;first | (rw[if_pos (by decide +kernel)];kernel_rfl) | (rw[if_neg (by decide +kernel)];exact⟨rfl,rfl⟩))
  (fun os started H enc _ F=>by rw[OpenClaim.pre_eq_preRow];exact lifted os started H enc F)
theorem plain(f:FuncId)(fn:Func)(hf:Tryz.pinned.checked.prog.funcNamed "assessor/assessorlaw06.LayoutComments" = some f)(hfn:Tryz.pinned.checked.prog.funcs[f]?=some fn):
  false=Tryz.pinned.checked.prog.looks []∧∀(j:Nat) t,fn.params[j]?=some t→Tryz.pinned.checked.prog.wantsStandIn t=false:=by
 obtain rfl:f=4:=Option.some.inj ((show Tryz.prog.funcNamed "assessor/assessorlaw06.LayoutComments" = some 4 by kernel_rfl).symm.trans hf) |>.symm
 obtain rfl:fn=Tryz.f4:=(Option.some.inj (Tryz.func4.symm.trans hfn)).symm;refine⟨by kernel_rfl,fun j t ht=>?_⟩
 rw[Tryz.params4] at ht;have ht':t=9∨t=25∨t=3∨t=24:=by simpa using Array.mem_of_getElem? ht
 rcases ht' with rfl | rfl | rfl | rfl
 ·exact(show Tryz.prog.wantsStandIn 9=false by kernel_rfl)
 ·exact(show Tryz.prog.wantsStandIn 25=false by kernel_rfl)
 ·exact(show Tryz.prog.wantsStandIn 3=false by kernel_rfl)
 ·exact(show Tryz.prog.wantsStandIn 24=false by kernel_rfl)
theorem proved:Rows.LayoutCommentsUptoCardSaid:=
 Claim7.holds_tied_plain_at .later [] _ _ _ _ over (fun _ h=>by cases h) (by kernel_rfl) (fun _ h=>by cases h) layoutCommentsUpto_row_tie rfl ⟨rfl,rfl⟩ (by kernel_rfl) rfl plain (by kernel_rfl)
#print axioms proved
end Go.Proofs.YtgkkkgbknfhbaaaGreatDoor.layoutComments
