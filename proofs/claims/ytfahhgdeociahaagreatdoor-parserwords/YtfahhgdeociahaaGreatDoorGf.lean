/- A part of the proof: G9. -/
import Derived.Test.YtfahhgdeociahaaGreatDoorPe
import Derived.Test.YtfahhgdeociahaaGreatDoorGa

set_option linter.unusedVariables false
set_option linter.unusedSimpArgs false
namespace Go.Abs.Z
open Go.Proofs
abbrev LR := AzJ pur runA
theorem ruleNR {keep : List Bool} {c : ACode} {ff ffn ff' : FF} {σ σn σ' : Sto} {e : AExit} (ls : List Nat) (l : List Stp) (hl : AzJ pur runA keep c ffn σn e ff' σ') (h : nextT pur runA keep c ls ff σ (AvI l) = some (ffn, σn, qOf l True)) : AzJ pur runA keep c ff σ e ff' σ' := loop_next (AvM l trivial) hl h
theorem ruleXR {keep : List Bool} {c : ACode} {ff ff' : FF} {σ σ' : Sto} {e : AExit} (ls : List Nat) (l : List Stp) (h : leaveT pur runA c ls ff σ (AvI l) = some (e, ff', σ', qOf l True)) : AzJ pur runA keep c ff σ e ff' σ' := BxC (AvM l trivial) h
end Go.Abs.Z
