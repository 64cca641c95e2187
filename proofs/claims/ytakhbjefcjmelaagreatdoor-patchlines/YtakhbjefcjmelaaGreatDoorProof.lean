/- PROVED: assessorlaw40.PatchLines returns true and leaves its arguments as they were, for all arguments (Rows.PatchLinesCardSaid, the tied card). The listed variables start as the program text lays them (the card ties them, over the pruned copy of the repository). No other condition. -/
import Derived.Test.YtakhbjefcjmelaaGreatDoorFa
import Derived.Test.YtakhbjefcjmelaaGreatDoorRb
import Derived.Test.YtakhbjefcjmelaaGreatDoorDc

set_option linter.unusedVariables false
set_option linter.unusedSimpArgs false
namespace Go.Abs.Z
open Go.Proofs Go.RowKit Go.ChangeShapes Go.WideShapes Go.ChangeAt Go.ChangeMaps
open Go.Proofs.YtakhbjefcjmelaaGreatDoor
set_option linter.unusedVariables false
theorem readableH : Tryz.prog.readableRec 22 = true := by kernel_rfl
theorem rowH : 22 < Tryz.prog.types.size := of_decide_eq_true (by kernel_rfl)
theorem arg_stays {H : Type} {enc : TypeId × Value → H} {W W' : World} {v : Value} {d : DataW H} {p : List MemPlace} (h : DataW.Trod enc Tryz.prog W 0 (fun _ => true) true 22 v d p) (hb : Below W.heap.size W W') (hlt : ∀ x ∈ p, x.block < W.heap.size)
    (sp : Nat → Bool) (hs : ∀ x ∈ p, sp x.block = true) : DataW.Trod enc Tryz.prog W' 0 sp true 22 v d p :=
  WideElems.Trod_stays pLaidOut readableH rowH h (fun x hx => hb.same (hlt x hx)) hs
set_option maxRecDepth 100000 in
theorem contract3 (H : Type) (enc : TypeId × Value → H) (W : World) (base : Nat) (args : Array Value) (ds gs : List (DataW H)) (before : List MemPlace)
    (hval : ∀ (j : Nat) t v, Tryz.f3.params[j]? = some t → args[j]? = some v → Value.okWide Tryz.prog W .any base t v)
    (hW : DataW.Whole enc Tryz.prog Tryz.f3.params.toList Rows.patchLinesSpec.vars false W args.toList ds gs before) (hlaid : laidMetH Tryz.prog Rows.patchLinesRow.laid W) :
    Calls Tryz.prog 3 args W fun e W' => ∃ v, e = .returned v ∧ Rows.patchLinesSpec.post enc Tryz.prog Tryz.f3 false true false false W args v W' := by
  have hW' := hW
  obtain ⟨p, q, hA0, hV, rfl, hfz, hnd⟩ := hW
  have hA : DataW.TrodAll enc Tryz.prog W 0 (fun _ => true) true Tryz.f3.params.toList args.toList ds p := hA0
  rw [Tryz.params3] at hA hval
  obtain ⟨v0, v1, d0, d1, p0, p1, rfl, rfl, rfl, h0, h1⟩ := trodAll_two hA
  obtain ⟨rfl, rfl⟩ := trodVars_none hV
  have hv0 : Value.okWide Tryz.prog W .any base 9 v0 := hval 0 9 v0 rfl rfl
  have hv1 : Value.okWide Tryz.prog W .any base 22 v1 := hval 1 22 v1 rfl rfl
  obtain ⟨s0, rfl, rfl, rfl, hs0⟩ := open_string Tryz.underlying9 hv0 h0
  have hna : ∀ cs, v1 ≠ .agg cs := by
    obtain ⟨a, len, cap, rfl⟩ := okWide_slice Tryz.underlying22 hv1
    intro cs hc; cases hc
  obtain ⟨dv, l, hrep, hrow, hll, hnl⟩ := read_hunks hna h1
  clear hA0
  have hlt := fun x hx => hW'.lt (p := x) hx
  refine (calls_true (tab_of hlaid) (patchLines_ok s0.data.toList hrow hll hnl) ⟨rfl, fun j p hp => ?_⟩).mono fun e W' ⟨he, hb⟩ => ?_
  · match j, hp with
    | 0, hp => cases hp; exact ⟨_, rfl, .one (.inl (.str s0))⟩
    | 1, hp => cases hp; exact ⟨_, rfl, .one (.inl hrep)⟩
    | j + 2, hp => simp at hp
  · subst he
    refine ⟨_, rfl, post_below hW' rfl rfl rfl (fun _ _ _ => trodAll_cons_mk (shut_bool Tryz.underlying4 _) trodAll_mk0) (fun sp hs' => ?_) hb (ok_one (by kernel_rfl) rfl (okWide_bool_mk Tryz.underlying4 _))⟩
    rw [Tryz.params3]
    have := trodAll_mk2 (shut_string (enc := enc) (P := Tryz.prog) (w := W') (base := 0) (sp := sp) (held := true) Tryz.underlying9 hs0) (arg_stays h1 hb (fun x hx => hlt x (by simp [hx])) sp (fun x hx => hs' x (by simp [hx])))
    simpa using this
end Go.Abs.Z
namespace Go.Proofs.YtakhbjefcjmelaaGreatDoor.patchLines
open Go.ChangeShapes Go.WideShapes Go.ChangeAt Go.RowKit Go.Abs.Z
set_option linter.unusedVariables false
noncomputable def world (os : Os) : World := World.laidAll Tryz.prog os Rows.patchLinesRow.laid
set_option maxRecDepth 100000 in
theorem laid_met (os : Os) (args : Array Value) : laidMetH Tryz.prog Rows.patchLinesRow.laid ((world os).forCall (fun _ _ => 0) ⟨#[], args, []⟩).memory := by
  rw [MakeChecks.laidMetH_plain _ _ _ (by kernel_rfl)]
  exact laidMet_laidAll _ (by kernel_rfl) (by kernel_rfl)
theorem reads (os : Os) {H : Type} (enc : TypeId × Value → H) : ∃ places, DataW.whole enc Tryz.prog ((world os).forCall (fun _ _ => 0) ⟨#[], #[.string ⟨#[]⟩, .slice none 0 0], []⟩).memory Tryz.f3.params.toList Rows.patchLinesSpec.vars false #[Value.string ⟨#[]⟩, .slice none 0 0].toList 8 = some ([.lit (.string []), .nil], [], places) :=
  ⟨[], by kernel_rfl⟩
theorem shaped (os : Os) : ((world os).forCall (fun _ _ => 0) ⟨#[], #[.string ⟨#[]⟩, .slice none 0 0], []⟩).Shaped Tryz.prog := World.shaped_of_ZipB (by kernel_rfl) (by kernel_rfl)
theorem okay (os : Os) : Input.okWideB Tryz.prog ((world os).forCall (fun _ _ => 0) ⟨#[], #[.string ⟨#[]⟩, .slice none 0 0], []⟩) 3 ⟨#[], #[.string ⟨#[]⟩, .slice none 0 0], []⟩ = true := by kernel_rfl
set_option maxRecDepth 100000 in
theorem lifted (os : Os) (started : os.Started) (H : Type) (enc : TypeId × Value → H) (F : Stop.Interp) :
    ReturnsInHanded {} Tryz.checked os 3 .any ((OpenSpec.ofChange Rows.patchLinesSpec).preRow enc Tryz.prog Tryz.f3 Rows.patchLinesRow.domain false Rows.patchLinesRow.laid) (((OpenSpec.ofChange Rows.patchLinesSpec).at F).post enc Tryz.prog Tryz.f3 false true false false) := by
  obtain ⟨places, hx⟩ := reads os enc
  refine returnsInHanded_of_row (C := Tryz.checked) (s := OpenSpec.ofChange Rows.patchLinesSpec) Go.Abs.Z.own started (by kernel_rfl) Tryz.func3
    ⟨world os, fun _ _ => 0, ⟨#[], #[.string ⟨#[]⟩, .slice none 0 0], []⟩, World.laidAll_os _ _ _, shaped os, rfl, (Input.okWide_of_okWideB (okay os)).2,
      OpenSpec.preRow_of_cond 8 hx (by kernel_rfl) (fun k hk => by cases hk) (by kernel_rfl) (laid_met os _), by
        simp only [Assume.holds]
        exact ⟨by simp, by simp, by simp, by simp, by simp⟩⟩ ?_
  intro W base args ds gs before hval hW _ _ _ hlaid _ _
  exact contract3 H enc W base args ds gs before hval hW hlaid
theorem over : Rows.PatchLinesSaid :=
  OpenClaim.holds_of_cond 3 Tryz.f3 rfl rfl rfl rfl rfl rfl rfl ⟨rfl, rfl, rfl, rfl, rfl⟩ rfl rfl rfl rfl rfl (by kernel_rfl) Tryz.func3 closed
    (of_decide_eq_true (by kernel_rfl)) (by unfold Func.isWrapper; first | (rw [if_pos (by decide +kernel)]; kernel_rfl) | (rw [if_neg (by decide +kernel)]; exact ⟨rfl, rfl⟩))
    (fun os started H enc _ F => by rw [OpenClaim.pre_eq_preRow]; exact lifted os started H enc F)
theorem plain (f : FuncId) (fn : Func) (hf : Tryz.pinned.checked.prog.funcNamed "assessor/assessorlaw40.PatchLines" = some f) (hfn : Tryz.pinned.checked.prog.funcs[f]? = some fn) :
    false = Tryz.pinned.checked.prog.looks [] ∧ ∀ (j : Nat) t, fn.params[j]? = some t → Tryz.pinned.checked.prog.wantsStandIn t = false := by
  obtain rfl : f = 3 := Option.some.inj ((show Tryz.prog.funcNamed "assessor/assessorlaw40.PatchLines" = some 3 by kernel_rfl).symm.trans hf) |>.symm
  obtain rfl : fn = Tryz.f3 := (Option.some.inj (Tryz.func3.symm.trans hfn)).symm
  refine ⟨by kernel_rfl, fun j t ht => ?_⟩
  rw [Tryz.params3] at ht
  have ht' : t = 9 ∨ t = 22 := by simpa using Array.mem_of_getElem? ht
  rcases ht' with rfl | rfl
  · exact (show Tryz.prog.wantsStandIn 9 = false by kernel_rfl)
  · exact (show Tryz.prog.wantsStandIn 22 = false by kernel_rfl)
theorem proved : Rows.PatchLinesCardSaid :=
  Claim7.holds_tied_plain_at .later [] _ _ _ _ over (fun _ h => by cases h) (by kernel_rfl) (fun _ h => by cases h) patchLines_row_tie rfl ⟨rfl, rfl⟩ (by kernel_rfl) rfl plain (by kernel_rfl)
#print axioms proved
end Go.Proofs.YtakhbjefcjmelaaGreatDoor.patchLines
