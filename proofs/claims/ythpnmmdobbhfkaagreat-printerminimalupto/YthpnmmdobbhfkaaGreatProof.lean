/- PROVED: assessorlaw05.PrinterMinimal returns true and leaves its arguments as they were, for all arguments whose bulk is at most 1048576 (Rows.PrinterMinimalUptoSaid). No other condition. -/
import Derived.Test.YthpnmmdobbhfkaaGreatNb
import Derived.Test.YthpnmmdobbhfkaaGreatRa

set_option linter.unusedVariables false
set_option linter.unusedSimpArgs false
namespace Go.Abs.Z
open Go.Proofs Go.RowKit Go.ChangeShapes Go.WideShapes Go.ChangeAt
open Go.Proofs.YthpnmmdobbhfkaaGreat
set_option linter.unusedVariables false
set_option maxRecDepth 100000 in
theorem min_contract (H : Type) (enc : TypeId × Value → H) (W : World) (base : Nat) (args : Array Value) (ds gs : List (DataW H)) (before : List MemPlace)
    (hval : ∀ (j : Nat) t v, Tryz.f6.params[j]? = some t → args[j]? = some v → Value.okWide Tryz.prog W .any base t v)
    (hW : DataW.Whole enc Tryz.prog Tryz.f6.params.toList Rows.printerMinimalSpec.vars false W args.toList ds gs before) (hk : Rows.uptoSmall H (ds ++ gs) = true) :
    Calls Tryz.prog 6 args W fun e W' => ∃ v, e = .returned v ∧ Rows.printerMinimalSpec.post enc Tryz.prog Tryz.f6 false true false false W args v W' := by
  have hW' := hW
  obtain ⟨p, q, hA0, hV, rfl, hfz, hnd⟩ := hW
  have hA : DataW.TrodAll enc Tryz.prog W 0 (fun _ => true) true Tryz.f6.params.toList args.toList ds p := hA0
  rw [Tryz.params6] at hA hval
  obtain ⟨v0, d0, rfl, rfl, h0⟩ := trodAll_one hA
  obtain ⟨rfl, rfl⟩ := trodVars_none hV
  clear hA0
  obtain ⟨T, rT, wT, lT⟩ := read_arg h0
  have hbound := of_decide_eq_true hk
  simp only [Rows.uptoBulkAll, List.append_nil] at hbound
  have hlt := fun x hx => hW'.lt (p := x) hx
  refine (calls_true (min_true T wT (row_of (by omega))) ⟨rfl, fun j p hp => ?_⟩).mono fun e W' ⟨he, hb⟩ => ?_
  · match j, hp with
    | 0, hp => cases hp; exact ⟨_, rfl, .one (.inl rT)⟩
    | j + 1, hp => simp at hp
  · subst he
    refine ⟨_, rfl, post_below hW' rfl rfl rfl (fun _ _ _ => trodAll_cons_mk (shut_bool Tryz.underlying4 _) trodAll_mk0) (fun sp hs => ?_) hb (ok_one (by kernel_rfl) rfl (okWide_bool_mk Tryz.underlying4 _))⟩
    rw [Tryz.params6]
    have := trodAll_mk1 (arg_stays h0 hb (fun x hx => hlt x (by simp [hx])) sp (fun x hx => hs x (by simp [hx])))
    simpa using this
end Go.Abs.Z
namespace Go.Proofs.YthpnmmdobbhfkaaGreat.printerMinimal
open Go.ChangeShapes Go.WideShapes Go.ChangeAt Go.RowKit Go.Abs.Z
set_option linter.unusedVariables false
def leaf : Value := .agg #[.int .i64 0, .string ⟨#[]⟩, .int .i64 0, .int .i64 0, .slice Option.none 0 0]
def leafD {H : Type} : DataW H := .agg [.lit (.int .i64 0), .lit (.string []), .lit (.int .i64 0), .lit (.int .i64 0), .nil]
set_option maxRecDepth 100000 in
theorem lifted (os : Os) (started : os.Started) (H : Type) (enc : TypeId × Value → H) (F : Stop.Interp) :
    ReturnsInHanded {} Tryz.checked os 6 .any ((Rows.OpenSpec.upto Rows.printerMinimalSpec).pre6 enc Tryz.prog Tryz.f6 Rows.printerMinimalUptoRow.domain false) (((Rows.OpenSpec.upto Rows.printerMinimalSpec).at F).post enc Tryz.prog Tryz.f6 false true false false) := by
  refine returnsInHanded_of_cond (C := Tryz.checked) (s := Rows.OpenSpec.upto Rows.printerMinimalSpec) (k := Rows.uptoSmall) rfl Go.Abs.Z.own started (by kernel_rfl) Tryz.func6
    (OpenSpec.witness (enc := enc) (C := Tryz.checked) (s := Rows.OpenSpec.upto Rows.printerMinimalSpec) (k := Rows.uptoSmall) rfl false ⟨#[], #[leaf], []⟩ 8 (by kernel_rfl) (by kernel_rfl) (by kernel_rfl)
      (x := ([leafD], [], [])) (by kernel_rfl) rfl (by kernel_rfl)) ?_
  intro W base args ds gs before hval hW _ hk _
  exact min_contract H enc W base args ds gs before hval hW hk
theorem over : Rows.printerMinimalUptoRow.holds Tryz.pinned (Rows.OpenSpec.upto Rows.printerMinimalSpec) :=
  OpenClaim.holds_of_cond 6 Tryz.f6 rfl rfl rfl rfl rfl rfl rfl ⟨rfl, rfl, rfl, rfl, rfl⟩ rfl rfl rfl rfl rfl (by kernel_rfl) Tryz.func6 (by kernel_rfl)
    (of_decide_eq_true (by kernel_rfl)) (by unfold Func.isWrapper; first | (rw [if_pos (by decide +kernel)]; kernel_rfl) | (rw [if_neg (by decide +kernel)]; exact ⟨rfl, rfl⟩))
    (fun os started H enc _ F => lifted os started H enc F)
theorem proved : Rows.PrinterMinimalUptoSaid :=
  over
#print axioms proved
end Go.Proofs.YthpnmmdobbhfkaaGreat.printerMinimal
