/- A part of the proof: G9. -/
import Derived.Test.YtfahhgdeociahaaDoorPe
import Derived.Test.YtfahhgdeociahaaDoorGa

set_option linter.unusedVariables false
set_option linter.unusedSimpArgs false
namespace Go.Abs.Z
open Go.Proofs
abbrev LR := AzJ pur runA
theorem BjW {keep : List Bool} {c : ACode} {ff ffn ff' : FF} {σ σn σ' : Sto} {e : AExit} (ls : List Nat) (l : List Stp) (hl : AzJ pur runA keep c ffn σn e ff' σ') (h : nextT pur runA keep c ls ff σ (AvP l) = some (ffn, σn, qOf l True)) : AzJ pur runA keep c ff σ e ff' σ' := loop_next (AvT l trivial) hl h
theorem ruleXR {keep : List Bool} {c : ACode} {ff ff' : FF} {σ σ' : Sto} {e : AExit} (ls : List Nat) (l : List Stp) (h : leaveT pur runA c ls ff σ (AvP l) = some (e, ff', σ', qOf l True)) : AzJ pur runA keep c ff σ e ff' σ' := Bx7 (AvT l trivial) h
end Go.Abs.Z
