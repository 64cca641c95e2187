/- A part of the proof: G9. -/
import Derived.Test.YtfahhgdeociahaaGreatDoorPe
import Derived.Test.YtfahhgdeociahaaGreatDoorGa

set_option linter.unusedVariables false
set_option linter.unusedSimpArgs false
namespace Go.Abs.Z
open Go.Proofs
abbrev LR := AzO pur runA
theorem ruleNR {keep : List Bool} {c : ACode} {ff ffn ff' : FF} {σ σn σ' : Sto} {e : AExit} (ls : List Nat) (l : List Stp) (hl : AzO pur runA keep c ffn σn e ff' σ') (h : nextT pur runA keep c ls ff σ (AvY l) = some (ffn, σn, qOf l True)) : AzO pur runA keep c ff σ e ff' σ' := loop_next (Aw2 l trivial) hl h
theorem ruleXR {keep : List Bool} {c : ACode} {ff ff' : FF} {σ σ' : Sto} {e : AExit} (ls : List Nat) (l : List Stp) (h : leaveT pur runA c ls ff σ (AvY l) = some (e, ff', σ', qOf l True)) : AzO pur runA keep c ff σ e ff' σ' := BxM (Aw2 l trivial) h
theorem pvs_ones : ∀ us : List Tr, (Tr.pvs us).all PV.ones = true
  | [] => rfl
  | u :: us => by
    rw [Tr.pvs, List.all_cons, pvs_ones us];simp
theorem app_trs2 {ts us : List Tr} (o : Bool) (h3 : us ≠ []) (h : ts.length + us.length ≤ AqH) : semP (.app 5) [.slice true 5 (Tr.pvs ts), .slice o 5 (Tr.pvs us)] = some [some (.slice true 5 (Tr.pvs (ts ++ us))), some (.slice false 5 (Tr.pvs ts))] := by
  have e : Tr.pvs (ts ++ us) = Tr.pvs ts ++ Tr.pvs us := by rw [Tr.AxG, Tr.AxG, Tr.AxG, List.map_append]
  rw [e];exact app_lit (by rw [Tr.AxG, Tr.AxG, List.length_map, List.length_map]; exact h) (by cases us <;> first | exact absurd rfl h3 | rfl) (pvs_ones us)
end Go.Abs.Z
