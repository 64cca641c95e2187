/- PROVED: assessorlaw05.PrinterStatements returns true and leaves its arguments as they were, for all arguments whose bulk is at most 1048576 (Rows.PrinterStatementsUptoCardSaid, the tied card). The listed variables start as the program text lays them (the card ties them, over the pruned copy of the repository). No other condition. -/
import Derived.Test.YtkmhldloehaamaaGreatDoorQb
import Derived.Test.YtkmhldloehaamaaGreatDoorRa
import Derived.Deep.DeepHandedRow
import Derived.Lib.LaidU8
import Derived.Lay
import Derived.SevenTiedAt
import Derived.Test.YtkmhldloehaamaaGreatDoorCards
import Derived.Test.YtkmhldloehaamaaGreatDoorTie

set_option linter.unusedVariables false
set_option linter.unusedSimpArgs false
namespace Go.Abs.Z
open Go.Proofs Go.RowKit Go.ChangeShapes Go.WideShapes Go.ChangeAt
open Go.Proofs.YtkmhldloehaamaaGreatDoor
set_option linter.unusedVariables false
theorem gSpace : Tryz.prog.globalNamed "strings.asciiSpace" = some 0 := by kernel_rfl
theorem gSpaceType : (Tryz.prog.globals[0]?).map (·.type) = some 57 := by kernel_rfl
theorem cells57 : Tryz.prog.cellsOf 57 = 256 := by kernel_rfl
theorem cells5r : Tryz.prog.cellsOf 5 = 1 := by kernel_rfl
theorem space_data : (Rows.laid_strings_asciiSpace : DataW Unit) = Lib.tabData .u8 Lib.asciiSpaceTab := by kernel_rfl
theorem cell_in {w : World} {b o : Nat} {v : Value} (h : w.cell? ⟨b, o, none⟩ = some v) : b < w.heap.size := by
  rcases Nat.lt_or_ge b w.heap.size with h1 | h1
  · exact h1
  · simp [World.cell?, h1] at h
theorem max_cell (W : World) (h : W.ShapedOpen Tryz.prog) : ∃ m, W.cell? ⟨2, 0, none⟩ = some (.int .i64 m) :=
  Go.Proofs.cell_of_shapedOpen_int (zero := #[.int .i64 0]) (t := 3) h (of_decide_eq_true (by kernel_rfl)) (by kernel_rfl) rfl (by kernel_rfl) (by kernel_rfl) Tryz.underlying3
theorem space_tab {W : World} (h : laidMetH Tryz.prog Rows.printerStatementsUptoRow.laid W) : Lib.TabIs Tryz.prog W "strings.asciiSpace" .u8 Lib.asciiSpaceTab := by
  rw [MakeChecks.laidMetH_plain _ _ _ (by kernel_rfl)] at h
  obtain ⟨g, t, cs, fuel, p, hg, ht, hv, hd⟩ := Lib.laidMet.reads h (n := "strings.asciiSpace") (d := Rows.laid_strings_asciiSpace) (.tail _ (.tail _ (.head _)));obtain rfl := Option.some.inj (gSpace.symm.trans hg);obtain rfl := Option.some.inj (gSpaceType.symm.trans ht);rw [space_data] at hd;unfold Lib.TabIs;rw [hv, ← Lib.cells_of_tab Tryz.underlying57 Tryz.underlying5 cells5r cells57 hd]
set_option maxRecDepth 100000 in
theorem st_contract (H : Type) (enc : TypeId × Value → H) (W : World) (base : Nat) (args : Array Value) (ds gs : List (DataW H)) (before : List MemPlace)
    (hval : ∀ (j : Nat) t v, Tryz.f3.params[j]? = some t → args[j]? = some v → Value.okWide Tryz.prog W .any base t v)
    (hW : DataW.Whole enc Tryz.prog Tryz.f3.params.toList Rows.printerStatementsSpec.vars false W args.toList ds gs before) (hk : Rows.uptoSmall H (ds ++ gs) = true)
    (hL : laidMetH Tryz.prog Rows.printerStatementsUptoRow.laid W) (hsh : W.ShapedOpen Tryz.prog) :
    Calls Tryz.prog 3 args W fun e W' => ∃ v, e = .returned v ∧ Rows.printerStatementsSpec.post enc Tryz.prog Tryz.f3 false true false false W args v W' := by
  have hW' := hW;obtain ⟨p, q, hA0, hV, rfl, hfz, hnd⟩ := hW;have hA : DataW.TrodAll enc Tryz.prog W 0 (fun _ => true) true Tryz.f3.params.toList args.toList ds p := hA0
  rw [Tryz.params3] at hA hval;obtain ⟨v0, v1, d0, d1, p0, p1, rfl, rfl, rfl, h0, h1⟩ := trodAll_two hA;obtain ⟨rfl, rfl⟩ := trodVars_none hV;have hv1 : Value.okWide Tryz.prog W .any base 3 v1 := hval 1 3 v1 rfl rfl;have ho1 := open_int Tryz.underlying3 hv1 h1;obtain ⟨i, rfl, rfl, rfl, wi⟩ := ho1;clear hA0;obtain ⟨T, rT, wT, lT⟩ := read_arg h0;have hbound := of_decide_eq_true hk;simp only [Rows.uptoBulkAll, List.append_nil] at hbound;have hlt := fun x hx => hW'.lt (p := x) hx
  obtain ⟨mm, hm⟩ := max_cell W hsh;refine ((callsIn_wide (n := 0)).1 ?_ : Calls Tryz.prog 3 _ W fun e W' => e = .returned (.bool true) ∧ Below W.heap.size W W').mono fun e W' ⟨he, hb⟩ => ?_
  · rw [← wide_eq];refine st_walk (T := T) (d := i) ⟨rfl, fun j p hp => ?_⟩ hm (cell_in hm) (space_tab hL) (st_law i wT (row_of (by omega)))
    match j, hp with
    | 0, hp => cases hp; exact ⟨_, rfl, .one (.inl rT)⟩
    | 1, hp => cases hp; exact ⟨_, rfl, .one (.inl (.int _ _))⟩
    | j + 2, hp => simp at hp
  · subst he;refine ⟨_, rfl, post_below hW' rfl rfl rfl (fun _ _ _ => trodAll_cons_mk (shut_bool Tryz.underlying4 _) trodAll_mk0) (fun sp hs => ?_) hb (ok_one (by kernel_rfl) rfl (okWide_bool_mk Tryz.underlying4 _))⟩
    rw [Tryz.params3];have := trodAll_mk2 (arg_stays h0 hb (fun x hx => hlt x (by simp [hx])) sp (fun x hx => hs x (by simp [hx]))) (shut_int (enc := enc) (P := Tryz.prog) (w := W') (base := 0) (spare := sp) (held := true) Tryz.underlying3 wi)
    simpa using this
end Go.Abs.Z
namespace Go.Proofs.YtkmhldloehaamaaGreatDoor.printerStatements
open Go.ChangeShapes Go.WideShapes Go.ChangeAt Go.RowKit Go.Abs.Z
set_option linter.unusedVariables false
def leaf : Value := .agg #[.int .i64 0, .string ⟨#[]⟩, .int .i64 0, .int .i64 0, .slice Option.none 0 0]
def leafD {H : Type} : DataW H := .agg [.lit (.int .i64 0), .lit (.string []), .lit (.int .i64 0), .lit (.int .i64 0), .nil]
noncomputable def world (os : Os) : World := World.laidAll Tryz.prog os Rows.printerStatementsUptoRow.laid
set_option maxRecDepth 100000 in
theorem laid_met (os : Os) (args : Array Value) : laidMetH Tryz.prog Rows.printerStatementsUptoRow.laid ((world os).forCall (fun _ _ => 0) ⟨#[], args, []⟩).memory := by
  rw [MakeChecks.laidMetH_plain _ _ _ (by kernel_rfl)]
  exact laidMet_laidAll _ (by kernel_rfl) (by kernel_rfl)
theorem reads (os : Os) {H : Type} (enc : TypeId × Value → H) : ∃ places, DataW.whole enc Tryz.prog ((world os).forCall (fun _ _ => 0) ⟨#[], #[leaf, .int .i64 0], []⟩).memory Tryz.f3.params.toList Rows.printerStatementsSpec.vars false #[leaf, Value.int .i64 0].toList 8 = some ([leafD, .lit (.int .i64 0)], [], places) :=
  ⟨[], by kernel_rfl⟩
theorem shaped (os : Os) : ((world os).forCall (fun _ _ => 0) ⟨#[], #[leaf, .int .i64 0], []⟩).Shaped Tryz.prog := World.shaped_of_ZipB (by kernel_rfl) (by kernel_rfl)
theorem okay (os : Os) : Input.okWideB Tryz.prog ((world os).forCall (fun _ _ => 0) ⟨#[], #[leaf, .int .i64 0], []⟩) 3 ⟨#[], #[leaf, .int .i64 0], []⟩ = true := by kernel_rfl
set_option maxRecDepth 100000 in
theorem lifted (os : Os) (started : os.Started) (H : Type) (enc : TypeId × Value → H) (F : Stop.Interp) :
    ReturnsInHanded {} Tryz.checked os 3 .any ((Rows.OpenSpec.upto Rows.printerStatementsSpec).preRow enc Tryz.prog Tryz.f3 Rows.printerStatementsUptoRow.domain false Rows.printerStatementsUptoRow.laid) (((Rows.OpenSpec.upto Rows.printerStatementsSpec).at F).post enc Tryz.prog Tryz.f3 false true false false) := by
  obtain ⟨places, hx⟩ := reads os enc
  refine returnsInHanded_of_row (C := Tryz.checked) (s := Rows.OpenSpec.upto Rows.printerStatementsSpec) Go.Abs.Z.own started (by kernel_rfl) Tryz.func3
    ⟨world os, fun _ _ => 0, ⟨#[], #[leaf, .int .i64 0], []⟩, World.laidAll_os _ _ _, shaped os, (Input.okWide_of_okWideB (base := 0) (okay os)).1, (Input.okWide_of_okWideB (okay os)).2,
      OpenSpec.preRow_of_cond 8 hx (by kernel_rfl) (fun k hk => by cases hk; kernel_rfl) (by kernel_rfl) (laid_met os _), by
        simp only [Assume.holds];exact ⟨by simp, by simp, by simp, by simp, by simp⟩⟩ ?_
  intro W base args ds gs before hval hW _ hk _ hL hsh _;exact st_contract H enc W base args ds gs before hval hW (hk _ rfl) hL hsh
theorem over : Rows.PrinterStatementsUptoSaid :=
  OpenClaim.holds_of_cond 3 Tryz.f3 rfl rfl rfl rfl rfl rfl rfl ⟨rfl, rfl, rfl, rfl, rfl⟩ rfl rfl rfl rfl rfl (by kernel_rfl) Tryz.func3 (by kernel_rfl)
    (of_decide_eq_true (by kernel_rfl)) (by unfold Func.isWrapper; first | (rw [if_pos (by decide +kernel)]; kernel_rfl) | (rw [if_neg (by decide +kernel)]; exact ⟨rfl, rfl⟩))
    (fun os started H enc _ F => by rw [OpenClaim.pre_eq_preRow]; exact lifted os started H enc F)
theorem plain (f : FuncId) (fn : Func) (hf : Tryz.pinned.checked.prog.funcNamed "assessor/assessorlaw05.PrinterStatements" = some f) (hfn : Tryz.pinned.checked.prog.funcs[f]? = some fn) :
    false = Tryz.pinned.checked.prog.looks [] ∧ ∀ (j : Nat) t, fn.params[j]? = some t → Tryz.pinned.checked.prog.wantsStandIn t = false := by
  obtain rfl : f = 3 := Option.some.inj ((show Tryz.prog.funcNamed "assessor/assessorlaw05.PrinterStatements" = some 3 by kernel_rfl).symm.trans hf) |>.symm
  obtain rfl : fn = Tryz.f3 := (Option.some.inj (Tryz.func3.symm.trans hfn)).symm;refine ⟨by kernel_rfl, fun j t ht => ?_⟩
  rw [Tryz.params3] at ht;have ht' : t = 24 ∨ t = 3 := by simpa using Array.mem_of_getElem? ht
  rcases ht' with rfl | rfl
  · exact (show Tryz.prog.wantsStandIn 24 = false by kernel_rfl)
  · exact (show Tryz.prog.wantsStandIn 3 = false by kernel_rfl)
theorem proved : Rows.PrinterStatementsUptoCardSaid :=
  Claim7.holds_tied_plain_at .later [] _ _ _ _ over (fun _ h => by cases h) (by kernel_rfl) (fun _ h => by cases h) printerStatementsUpto_row_tie rfl ⟨rfl, rfl⟩ (by kernel_rfl) rfl plain (by kernel_rfl)
#print axioms proved
end Go.Proofs.YtkmhldloehaamaaGreatDoor.printerStatements
